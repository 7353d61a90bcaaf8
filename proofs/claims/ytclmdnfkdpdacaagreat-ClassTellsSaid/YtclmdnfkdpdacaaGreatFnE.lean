/- What each function of the program comes to, and that it does, part 5. -/
import Derived.Test.YtclmdnfkdpdacaaGreatFnD
import Derived.KernelRfl
set_option linter.unusedVariables false
namespace Go.Proofs.YtclmdnfkdpdacaaGreat
open Go Go.Rf Go.Proofs Go.RowKit

noncomputable def polyglotref12_Legal.f (K : Nat) (t0 : Int) (o1 : Int) (A2 : List UInt8) (r3 : Int) : Option Bool :=
  (((
      bif decide (r3 < 0) then some (.inr false)
      else
      bif decide (r3 ≥ (A2.length : Int)) then some (.inr false)
      else
      bif o1 != 0 then
        bif o1 != 1 then
          some (.inr false)
        else some (.inl ())
      else some (.inl ())) : Option (Unit ⊕ Bool))).bind fun e_ =>
  match e_ with
  | .inl _ =>
    bif idx r3 A2.length then
      bif t0 == 1 then
        (((
            (polyglotref12_letter.f K ((A2.getD r3.toNat 0).toNat : Int)).bind fun r656 =>
            bif r656 then some true
            else
            bif ((A2.getD r3.toNat 0).toNat : Int) == 95 then some true
            else
            bif decide (r3 > 0) then
              (polyglotref12_digit.f K ((A2.getD r3.toNat 0).toNat : Int)).bind fun r657 =>
              bif r657 then some true
              else
              bif o1 == 0 then
                some (((A2.getD r3.toNat 0).toNat : Int) == 58)
              else some false
            else
            bif o1 == 0 then
              some (((A2.getD r3.toNat 0).toNat : Int) == 58)
            else some false) : Option Bool)).bind fun t658 =>
        some t658
      else
      bif t0 == 2 then
        (((
            bif decide (((A2.getD r3.toNat 0).toNat : Int) ≥ 32) then
              bif decide (((A2.getD r3.toNat 0).toNat : Int) ≤ 126) then
                bif ((A2.getD r3.toNat 0).toNat : Int) != 92 then
                  bif r3 == 0 then
                    bif ((A2.getD r3.toNat 0).toNat : Int) == 35 then
                      some (!(o1 == 0))
                    else some true
                  else some true
                else some false
              else some false
            else some false) : Option Bool)).bind fun t659 =>
        some t659
      else
      bif t0 == 3 then
        bif ((A2.getD r3.toNat 0).toNat : Int) == 46 then
          (((
              bif o1 == 0 then
                bif decide (r3 > 0) then
                  bif decide (r3 < (IntKind.i64.wrap ((A2.length : Int) - 1))) then
                    bif idx (IntKind.i64.wrap (r3 - 1)) A2.length then
                      some (((A2.getD ((IntKind.i64.wrap (r3 - 1)).toNat) 0).toNat : Int) != 46)
                    else none
                  else some false
                else some false
              else some false) : Option Bool)).bind fun t660 =>
          some t660
        else
        (polyglotref12_letter.f K ((A2.getD r3.toNat 0).toNat : Int)).bind fun r661 =>
        bif r661 then some true
        else
        (polyglotref12_digit.f K ((A2.getD r3.toNat 0).toNat : Int)).bind fun r662 =>
        bif r662 then some true
        else
        bif ((A2.getD r3.toNat 0).toNat : Int) == 95 then some true
        else
        bif ((A2.getD r3.toNat 0).toNat : Int) == 45 then
          some true
        else some (((A2.getD r3.toNat 0).toNat : Int) == 58)
      else
      bif t0 == 4 then
        (polyglotref12_letter.f K ((A2.getD r3.toNat 0).toNat : Int)).bind fun r663 =>
        bif r663 then some true
        else
        (polyglotref12_digit.f K ((A2.getD r3.toNat 0).toNat : Int)).bind fun r664 =>
        bif r664 then some true
        else
        bif ((A2.getD r3.toNat 0).toNat : Int) == 95 then some true
        else
        bif ((A2.getD r3.toNat 0).toNat : Int) == 45 then
          some true
        else some (((A2.getD r3.toNat 0).toNat : Int) == 46)
      else some false
    else none
  | .inr t665 =>
    some t665
def polyglotref12_Legal.sig : Sig := ⟨[(.c (.int .i64)), (.c (.int .i64)), (.c .str), (.c (.int .i64))], [(.c .bool)]⟩
noncomputable def polyglotref12_Legal.con (K : Nat) : Con := (mkCon polyglotref12_Legal.sig (fun x => polyglotref12_Legal.f K x.1 x.2.1 x.2.2.1 x.2.2.2))
noncomputable def polyglotref12_Legal.ht : HT := .seq .nil (.join ⟨4, [], [], ⟨[], []⟩, [(.normal, ⟨[], []⟩), (.ret, ⟨[(8, .c (.v .bool))], []⟩)]⟩ (.seq .nil (.seq .nil (.seq (.seq .nil (.block (.seq .nil (.cond (.join ⟨0, [], [], ⟨[], []⟩, [(.normal, ⟨[(8, .c (.v .bool))], []⟩)]⟩ (.seq .nil .nil)) (.seq .nil (.cond (.join ⟨0, [], [], ⟨[], []⟩, [(.normal, ⟨[(8, .c (.v .bool))], []⟩)]⟩ (.seq .nil .nil)) (.seq .nil (.cond (.seq (.seq .nil (.cond (.join ⟨0, [], [], ⟨[], []⟩, [(.normal, ⟨[(8, .c (.v .bool))], []⟩)]⟩ (.seq .nil .nil)) .nil)) .nil) .nil)))))))) .nil))))
noncomputable def polyglotref12_Legal.cx (K : Nat) : Cx := ⟨tt, [(65, polyglotref12_letter.con K), (66, polyglotref12_digit.con K)], [], K, inlOf tt [(65, polyglotref12_letter.con K), (66, polyglotref12_digit.con K)] [] K (getBody []) 0⟩
theorem polyglotref12_Legal.eq (K : Nat) (x : PL polyglotref12_Legal.sig.ps) : evalF (polyglotref12_Legal.cx K) polyglotref12_Legal.sig (bodyOf Tryz.f94) polyglotref12_Legal.ht x = polyglotref12_Legal.f K x.1 x.2.1 x.2.2.1 x.2.2.2 := by kernel_rfl
theorem polyglotref12_Legal.fok (K : Nat) : FOK Tryz.prog polyglotref12_Legal.sig (fun x => polyglotref12_Legal.f K x.1 x.2.1 x.2.2.1 x.2.2.2) 94 := fok_of_eval (tt := tt) (cons := [(65, polyglotref12_letter.con K), (66, polyglotref12_digit.con K)]) (exts := []) (bodies := (getBody [])) (K := K) (d := 0) ⟨ttok, (getCon_cons (polyglotref12_letter.ok K) (getCon_cons (polyglotref12_digit.ok K) (fun _ _ => getCon_nil))), (fun _ _ => getExt_nil), (fun _ _ => getBody_nil)⟩ draw bok94 (polyglotref12_Legal.eq K)
theorem polyglotref12_Legal.ok (K : Nat) : ConOK Tryz.prog 94 (polyglotref12_Legal.con K) := con_ok bok94 (polyglotref12_Legal.fok K)

noncomputable def polyglotref12_Bad.f (K : Nat) (proto0 : Int) (what1 : Int) (s2 : List UInt8) : Option Int :=
  ((loopN K (fun (s_ : Int) =>
    match s_ with
    | i670 =>
      bif decide (i670 < (s2.length : Int)) then
        (polyglotref12_Legal.f K proto0 what1 s2 i670).bind fun r671 =>
        bif !r671 then
          some (.inr (.inr i670))
        else some (.inl (IntKind.i64.wrap (i670 + 1)))
      else some (.inr (.inl ()))) 0 : Option (Unit ⊕ Int))).bind fun e_ =>
  match e_ with
  | .inl _ =>
    some (-1)
  | .inr t672 =>
    some t672
def polyglotref12_Bad.sig : Sig := ⟨[(.c (.int .i64)), (.c (.int .i64)), (.c .str)], [(.c (.int .i64))]⟩
noncomputable def polyglotref12_Bad.con (K : Nat) : Con := (mkCon polyglotref12_Bad.sig (fun x => polyglotref12_Bad.f K x.1 x.2.1 x.2.2))
noncomputable def polyglotref12_Bad.ht : HT := .seq .nil (.seq (.seq .nil (.block (.loop ⟨3, [], [], ⟨[(7, .c (.v (.int .i64)))], []⟩, [(.exit 0, ⟨[], []⟩), (.ret, ⟨[(6, .c (.v (.int .i64)))], []⟩)]⟩ .nil))) .nil)
noncomputable def polyglotref12_Bad.cx (K : Nat) : Cx := ⟨tt, [(94, polyglotref12_Legal.con K)], [], K, inlOf tt [(94, polyglotref12_Legal.con K)] [] K (getBody []) 0⟩
theorem polyglotref12_Bad.eq (K : Nat) (x : PL polyglotref12_Bad.sig.ps) : evalF (polyglotref12_Bad.cx K) polyglotref12_Bad.sig (bodyOf Tryz.f64) polyglotref12_Bad.ht x = polyglotref12_Bad.f K x.1 x.2.1 x.2.2 := by kernel_rfl
theorem polyglotref12_Bad.fok (K : Nat) : FOK Tryz.prog polyglotref12_Bad.sig (fun x => polyglotref12_Bad.f K x.1 x.2.1 x.2.2) 64 := fok_of_eval (tt := tt) (cons := [(94, polyglotref12_Legal.con K)]) (exts := []) (bodies := (getBody [])) (K := K) (d := 0) ⟨ttok, (getCon_cons (polyglotref12_Legal.ok K) (fun _ _ => getCon_nil)), (fun _ _ => getExt_nil), (fun _ _ => getBody_nil)⟩ draw bok64 (polyglotref12_Bad.eq K)
theorem polyglotref12_Bad.ok (K : Nat) : ConOK Tryz.prog 64 (polyglotref12_Bad.con K) := con_ok bok64 (polyglotref12_Bad.fok K)

noncomputable def polyglotref12_Is.f (K : Nat) (proto0 : Int) (what1 : Int) (s2 : List UInt8) : Option Bool :=
  bif decide ((s2.length : Int) ≥ 1) then
    bif decide ((s2.length : Int) ≤ 60) then
      bif decide (proto0 ≥ 1) then
        bif decide (proto0 ≤ 4) then
          bif what1 == 0 then
            (polyglotref12_Bad.f K proto0 what1 s2).bind fun r673 =>
            some (decide (r673 < 0))
          else
          bif what1 == 1 then
            (polyglotref12_Bad.f K proto0 what1 s2).bind fun r674 =>
            some (decide (r674 < 0))
          else some false
        else some false
      else some false
    else some false
  else some false
def polyglotref12_Is.sig : Sig := ⟨[(.c (.int .i64)), (.c (.int .i64)), (.c .str)], [(.c .bool)]⟩
noncomputable def polyglotref12_Is.con (K : Nat) : Con := (mkCon polyglotref12_Is.sig (fun x => polyglotref12_Is.f K x.1 x.2.1 x.2.2))
noncomputable def polyglotref12_Is.ht : HT := .nil
noncomputable def polyglotref12_Is.cx (K : Nat) : Cx := ⟨tt, [(64, polyglotref12_Bad.con K)], [], K, inlOf tt [(64, polyglotref12_Bad.con K)] [] K (getBody []) 0⟩
theorem polyglotref12_Is.eq (K : Nat) (x : PL polyglotref12_Is.sig.ps) : evalF (polyglotref12_Is.cx K) polyglotref12_Is.sig (bodyOf Tryz.f41) polyglotref12_Is.ht x = polyglotref12_Is.f K x.1 x.2.1 x.2.2 := by kernel_rfl
theorem polyglotref12_Is.fok (K : Nat) : FOK Tryz.prog polyglotref12_Is.sig (fun x => polyglotref12_Is.f K x.1 x.2.1 x.2.2) 41 := fok_of_eval (tt := tt) (cons := [(64, polyglotref12_Bad.con K)]) (exts := []) (bodies := (getBody [])) (K := K) (d := 0) ⟨ttok, (getCon_cons (polyglotref12_Bad.ok K) (fun _ _ => getCon_nil)), (fun _ _ => getExt_nil), (fun _ _ => getBody_nil)⟩ draw bok41 (polyglotref12_Is.eq K)
theorem polyglotref12_Is.ok (K : Nat) : ConOK Tryz.prog 41 (polyglotref12_Is.con K) := con_ok bok41 (polyglotref12_Is.fok K)

noncomputable def polyglotref12_unit.f (K : Nat) (h0 : List UInt8 × Int × List UInt8 × List UInt8) : Option Bool :=
  ((loopN K (fun (s_ : Int) =>
    match s_ with
    | i687 =>
      bif decide (i687 < (h0.2.2.1.length : Int)) then
        bif idx i687 h0.2.2.1.length then
          (((
              (polyglotref12_letter.f K ((h0.2.2.1.getD i687.toNat 0).toNat : Int)).bind fun r690 =>
              bif !r690 then
                (polyglotref12_digit.f K ((h0.2.2.1.getD i687.toNat 0).toNat : Int)).bind fun r691 =>
                bif !r691 then
                  bif ((h0.2.2.1.getD i687.toNat 0).toNat : Int) != 95 then
                    some (((h0.2.2.1.getD i687.toNat 0).toNat : Int) != 58)
                  else some false
                else some false
              else some false) : Option Bool)).bind fun t692 =>
          bif t692 then
            some (.inr (.inr false))
          else some (.inl (IntKind.i64.wrap (i687 + 1)))
        else none
      else some (.inr (.inl ()))) 0 : Option (Unit ⊕ Bool))).bind fun e_ =>
  match e_ with
  | .inl _ =>
    bif h0.2.2.1 == ([] : List UInt8) then some true
    else
    bif decide ((IntKind.i64.wrap ((h0.1.length : Int) - (h0.2.2.1.length : Int))) ≥ 1) then
      bif idx (IntKind.i64.wrap ((IntKind.i64.wrap ((h0.1.length : Int) - (h0.2.2.1.length : Int))) - 1)) h0.1.length then
        bif ((h0.1.getD ((IntKind.i64.wrap ((IntKind.i64.wrap ((h0.1.length : Int) - (h0.2.2.1.length : Int))) - 1)).toNat) 0).toNat : Int) == 95 then
          bif (decide (0 ≤ (IntKind.i64.wrap ((h0.1.length : Int) - (h0.2.2.1.length : Int))))) && (decide ((IntKind.i64.wrap ((h0.1.length : Int) - (h0.2.2.1.length : Int))) ≤ (h0.1.length : Int))) then
            some (((h0.1.take h0.1.length).drop ((IntKind.i64.wrap ((h0.1.length : Int) - (h0.2.2.1.length : Int))).toNat)) == h0.2.2.1)
          else none
        else some false
      else none
    else some false
  | .inr t693 =>
    some t693
def polyglotref12_unit.sig : Sig := ⟨[(.agg (.pair .str (.pair (.int .i64) (.pair .str .str))))], [(.c .bool)]⟩
noncomputable def polyglotref12_unit.con (K : Nat) : Con := (mkCon polyglotref12_unit.sig (fun x => polyglotref12_unit.f K x))
noncomputable def polyglotref12_unit.ht : HT := .seq .nil (.seq (.seq .nil (.block (.loop ⟨2, [], [], ⟨[(3, .c (.v (.int .i64)))], []⟩, [(.exit 0, ⟨[], []⟩), (.ret, ⟨[(2, .c (.v .bool))], []⟩)]⟩ (.seq .nil (.seq (.block (.seq .nil (.join ⟨4, [], [], ⟨[], []⟩, [(.normal, ⟨[(32, .c (.v .bool))], []⟩)]⟩ (.seq .nil .nil)))) .nil))))) .nil)
noncomputable def polyglotref12_unit.cx (K : Nat) : Cx := ⟨tt, [(65, polyglotref12_letter.con K), (66, polyglotref12_digit.con K)], [], K, inlOf tt [(65, polyglotref12_letter.con K), (66, polyglotref12_digit.con K)] [] K (getBody []) 0⟩
theorem polyglotref12_unit.eq (K : Nat) (x : PL polyglotref12_unit.sig.ps) : evalF (polyglotref12_unit.cx K) polyglotref12_unit.sig (bodyOf Tryz.f42) polyglotref12_unit.ht x = polyglotref12_unit.f K x := by kernel_rfl
theorem polyglotref12_unit.fok (K : Nat) : FOK Tryz.prog polyglotref12_unit.sig (fun x => polyglotref12_unit.f K x) 42 := fok_of_eval (tt := tt) (cons := [(65, polyglotref12_letter.con K), (66, polyglotref12_digit.con K)]) (exts := []) (bodies := (getBody [])) (K := K) (d := 0) ⟨ttok, (getCon_cons (polyglotref12_letter.ok K) (getCon_cons (polyglotref12_digit.ok K) (fun _ _ => getCon_nil))), (fun _ _ => getExt_nil), (fun _ _ => getBody_nil)⟩ draw bok42 (polyglotref12_unit.eq K)
theorem polyglotref12_unit.ok (K : Nat) : ConOK Tryz.prog 42 (polyglotref12_unit.con K) := con_ok bok42 (polyglotref12_unit.fok K)

noncomputable def polyglotref12_Value.f (K : Nat) (proto0 : Int) (v1 : List UInt8) : Option Bool :=
  bif proto0 == 1 then
    (polyglotref7_Value.f K v1).bind fun r694 =>
    some r694
  else
  (((
      (polyglotref12_IsProto.f K proto0).bind fun r696 =>
      bif !r696 then some true
      else
      bif decide ((v1.length : Int) < 1) then
        some true
      else some (decide ((v1.length : Int) > 60))) : Option Bool)).bind fun t697 =>
  bif t697 then some false
  else
  ((loopN K (fun (s_ : Int) =>
    match s_ with
    | i716 =>
      bif decide (i716 < (v1.length : Int)) then
        (((
            bif idx i716 v1.length then
              (((
                  bif proto0 == 2 then
                    bif decide (((v1.getD i716.toNat 0).toNat : Int) < 32) then some true
                    else
                    bif ((v1.getD i716.toNat 0).toNat : Int) == 127 then
                      some true
                    else some (((v1.getD i716.toNat 0).toNat : Int) == 92)
                  else some false) : Option Bool)).bind fun t721 =>
              bif t721 then some (.inr false)
              else
              (((
                  bif proto0 != 2 then
                    bif decide (((v1.getD i716.toNat 0).toNat : Int) < 33) then
                      some true
                    else some (decide (((v1.getD i716.toNat 0).toNat : Int) > 126))
                  else some false) : Option Bool)).bind fun t722 =>
              bif t722 then some (.inr false)
              else
              (((
                  bif proto0 == 3 then
                    bif ((v1.getD i716.toNat 0).toNat : Int) == 59 then some true
                    else
                    bif proto0 == 4 then
                      bif ((v1.getD i716.toNat 0).toNat : Int) == 44 then
                        some true
                      else some (((v1.getD i716.toNat 0).toNat : Int) == 124)
                    else some false
                  else
                  bif proto0 == 4 then
                    bif ((v1.getD i716.toNat 0).toNat : Int) == 44 then
                      some true
                    else some (((v1.getD i716.toNat 0).toNat : Int) == 124)
                  else some false) : Option Bool)).bind fun t723 =>
              bif t723 then
                some (.inr false)
              else some (.inl ())
            else none) : Option (Unit ⊕ Bool))).bind fun e_ =>
        match e_ with
        | .inl _ =>
          some (.inl (IntKind.i64.wrap (i716 + 1)))
        | .inr t724 =>
          some (.inr (.inr t724))
      else some (.inr (.inl ()))) 0 : Option (Unit ⊕ Bool))).bind fun e_ =>
  match e_ with
  | .inl _ =>
    (polyglotref1_Bad.f K v1).bind fun r725 =>
    some (decide (r725 < 0))
  | .inr t726 =>
    some t726
def polyglotref12_Value.sig : Sig := ⟨[(.c (.int .i64)), (.c .str)], [(.c .bool)]⟩
noncomputable def polyglotref12_Value.con (K : Nat) : Con := (mkCon polyglotref12_Value.sig (fun x => polyglotref12_Value.f K x.1 x.2))
noncomputable def polyglotref12_Value.ht : HT := .seq .nil (.seq .nil (.seq (.join ⟨5, [], [], ⟨[], []⟩, [(.normal, ⟨[(23, .c (.v .bool))], []⟩)]⟩ (.seq .nil .nil)) (.seq (.seq .nil (.block (.loop ⟨2, [], [], ⟨[(5, .c (.v (.int .i64)))], []⟩, [(.exit 0, ⟨[], []⟩), (.ret, ⟨[(4, .c (.v .bool))], []⟩)]⟩ (.seq .nil (.join ⟨6, [4], [], ⟨[], []⟩, [(.normal, ⟨[], []⟩), (.ret, ⟨[(4, .c (.v .bool))], []⟩)]⟩ (.seq (.block (.seq .nil (.block (.join ⟨7, [], [], ⟨[], []⟩, [(.normal, ⟨[(33, .c (.v .bool))], []⟩)]⟩ (.seq .nil (.cond .nil (.join ⟨7, [], [], ⟨[], []⟩, [(.normal, ⟨[(48, .c (.v .bool))], []⟩)]⟩ (.seq .nil (.cond .nil (.join ⟨6, [], [], ⟨[], []⟩, [(.normal, ⟨[(59, .c (.v .bool))], []⟩)]⟩ (.seq .nil .nil))))))))))) .nil)))))) .nil)))
noncomputable def polyglotref12_Value.cx (K : Nat) : Cx := ⟨tt, [(24, polyglotref7_Value.con K), (19, polyglotref12_IsProto.con K), (25, polyglotref1_Bad.con K)], [], K, inlOf tt [(24, polyglotref7_Value.con K), (19, polyglotref12_IsProto.con K), (25, polyglotref1_Bad.con K)] [] K (getBody []) 0⟩
theorem polyglotref12_Value.eq (K : Nat) (x : PL polyglotref12_Value.sig.ps) : evalF (polyglotref12_Value.cx K) polyglotref12_Value.sig (bodyOf Tryz.f14) polyglotref12_Value.ht x = polyglotref12_Value.f K x.1 x.2 := by kernel_rfl
theorem polyglotref12_Value.fok (K : Nat) : FOK Tryz.prog polyglotref12_Value.sig (fun x => polyglotref12_Value.f K x.1 x.2) 14 := fok_of_eval (tt := tt) (cons := [(24, polyglotref7_Value.con K), (19, polyglotref12_IsProto.con K), (25, polyglotref1_Bad.con K)]) (exts := []) (bodies := (getBody [])) (K := K) (d := 0) ⟨ttok, (getCon_cons (polyglotref7_Value.ok K) (getCon_cons (polyglotref12_IsProto.ok K) (getCon_cons (polyglotref1_Bad.ok K) (fun _ _ => getCon_nil)))), (fun _ _ => getExt_nil), (fun _ _ => getBody_nil)⟩ draw bok14 (polyglotref12_Value.eq K)
theorem polyglotref12_Value.ok (K : Nat) : ConOK Tryz.prog 14 (polyglotref12_Value.con K) := con_ok bok14 (polyglotref12_Value.fok K)

noncomputable def polyglotref12_labels.f (K : Nat) (proto0 : Int) (l1 : List (List UInt8 × List UInt8)) (values2 : Bool) : Option Bool :=
  ((loopN K (fun (s_ : Int) =>
    match s_ with
    | n732 =>
      bif decide (n732 < (l1.length : Int)) then
        bif idx n732 l1.length then
          (polyglotref12_Is.f K proto0 1 ((l1.getD n732.toNat (([] : List UInt8), ([] : List UInt8))).1)).bind fun r733 =>
          bif !r733 then some (.inr (.inr false))
          else
          bif values2 then
            bif idx n732 l1.length then
              (polyglotref12_Value.f K proto0 ((l1.getD n732.toNat (([] : List UInt8), ([] : List UInt8))).2)).bind fun r734 =>
              bif !r734 then
                some (.inr (.inr false))
              else some (.inl (IntKind.i64.wrap (n732 + 1)))
            else none
          else some (.inl (IntKind.i64.wrap (n732 + 1)))
        else none
      else some (.inr (.inl ()))) 0 : Option (Unit ⊕ Bool))).bind fun e_ =>
  match e_ with
  | .inl _ =>
    some true
  | .inr t735 =>
    some t735
def polyglotref12_labels.sig : Sig := ⟨[(.c (.int .i64)), (.c (.sl (.pair .str .str))), (.c .bool)], [(.c .bool)]⟩
noncomputable def polyglotref12_labels.con (K : Nat) : Con := (mkCon polyglotref12_labels.sig (fun x => polyglotref12_labels.f K x.1 x.2.1 x.2.2))
noncomputable def polyglotref12_labels.ht : HT := .seq .nil (.seq (.seq .nil (.block (.loop ⟨3, [], [], ⟨[(7, .c (.v (.int .i64)))], []⟩, [(.exit 0, ⟨[], []⟩), (.ret, ⟨[(6, .c (.v .bool))], []⟩)]⟩ .nil))) .nil)
noncomputable def polyglotref12_labels.cx (K : Nat) : Cx := ⟨tt, [(41, polyglotref12_Is.con K), (14, polyglotref12_Value.con K)], [], K, inlOf tt [(41, polyglotref12_Is.con K), (14, polyglotref12_Value.con K)] [] K (getBody []) 0⟩
theorem polyglotref12_labels.eq (K : Nat) (x : PL polyglotref12_labels.sig.ps) : evalF (polyglotref12_labels.cx K) polyglotref12_labels.sig (bodyOf Tryz.f43) polyglotref12_labels.ht x = polyglotref12_labels.f K x.1 x.2.1 x.2.2 := by kernel_rfl
theorem polyglotref12_labels.fok (K : Nat) : FOK Tryz.prog polyglotref12_labels.sig (fun x => polyglotref12_labels.f K x.1 x.2.1 x.2.2) 43 := fok_of_eval (tt := tt) (cons := [(41, polyglotref12_Is.con K), (14, polyglotref12_Value.con K)]) (exts := []) (bodies := (getBody [])) (K := K) (d := 0) ⟨ttok, (getCon_cons (polyglotref12_Is.ok K) (getCon_cons (polyglotref12_Value.ok K) (fun _ _ => getCon_nil))), (fun _ _ => getExt_nil), (fun _ _ => getBody_nil)⟩ draw bok43 (polyglotref12_labels.eq K)
theorem polyglotref12_labels.ok (K : Nat) : ConOK Tryz.prog 43 (polyglotref12_labels.con K) := con_ok bok43 (polyglotref12_labels.fok K)

noncomputable def polyglotref12_family.f (K : Nat) (proto0 : Int) (f1 : List UInt8 × Int × List UInt8 × List UInt8 × List (List (List UInt8 × List UInt8) × Int × Bool × Int × Int × Int × Int × Bool × Int)) : Option Bool :=
  (polyglotref12_Kinds.f K proto0).bind fun r736 =>
  ((loopN K (fun (s_ : Bool × Int) =>
    match s_ with
    | (in739, t740) =>
      bif decide (t740 < (r736.length : Int)) then
        bif idx t740 r736.length then
          bif in739 then
            some (.inl (true, IntKind.i64.wrap (t740 + 1)))
          else some (.inl ((r736.getD t740.toNat (0 : Int)) == f1.2.1, IntKind.i64.wrap (t740 + 1)))
        else none
      else some (.inr in739)) (false, 0) : Option Bool)).bind fun in741 =>
  (((
      (((
          bif !in741 then some true
          else
          (polyglotref12_Is.f K proto0 0 f1.1).bind fun r748 =>
          bif !r748 then some true
          else
          bif proto0 == 1 then
            (polyglotref12_unit.f K (f1.1, f1.2.1, f1.2.2.1, f1.2.2.2.1)).bind fun r749 =>
            bif !r749 then some true
            else
            bif proto0 != 1 then
              bif !(f1.2.2.1 == ([] : List UInt8)) then some true
              else
              bif !(f1.2.2.2.1 == ([] : List UInt8)) then
                some true
              else some ((f1.2.2.2.2.length : Int) == 0)
            else some false
          else
          bif proto0 != 1 then
            bif !(f1.2.2.1 == ([] : List UInt8)) then some true
            else
            bif !(f1.2.2.2.1 == ([] : List UInt8)) then
              some true
            else some ((f1.2.2.2.2.length : Int) == 0)
          else some false) : Option Bool)).bind fun t750 =>
      bif t750 then
        some (.inr false)
      else some (.inl ())) : Option (Unit ⊕ Bool))).bind fun e_ =>
  match e_ with
  | .inl _ =>
    ((loopN K (fun (s_ : Int) =>
      match s_ with
      | k759 =>
        bif decide (k759 < (f1.2.2.2.2.length : Int)) then
          bif idx k759 f1.2.2.2.2.length then
            (((
                (polyglotref12_labels.f K proto0 ((f1.2.2.2.2.getD k759.toNat (([] : List (List UInt8 × List UInt8)), ((0 : Int), (false, ((0 : Int), ((0 : Int), ((0 : Int), ((0 : Int), (false, (0 : Int)))))))))).1) true).bind fun r761 =>
                bif !r761 then some true
                else
                bif proto0 == 3 then
                  bif !(((((((((f1.2.2.2.2.getD k759.toNat (([] : List (List UInt8 × List UInt8)), ((0 : Int), (false, ((0 : Int), ((0 : Int), ((0 : Int), ((0 : Int), (false, (0 : Int)))))))))).2).2).2).2).2).2).2).1) then some true
                  else
                  bif (Int.tmod (((((((((f1.2.2.2.2.getD k759.toNat (([] : List (List UInt8 × List UInt8)), ((0 : Int), (false, ((0 : Int), ((0 : Int), ((0 : Int), ((0 : Int), (false, (0 : Int)))))))))).2).2).2).2).2).2).2).2) 1000) != 0 then some true
                  else
                  bif proto0 == 4 then
                    bif ((((((((f1.2.2.2.2.getD k759.toNat (([] : List (List UInt8 × List UInt8)), ((0 : Int), (false, ((0 : Int), ((0 : Int), ((0 : Int), ((0 : Int), (false, (0 : Int)))))))))).2).2).2).2).2).2).2).1 then
                      some true
                    else some (decide ((((((((f1.2.2.2.2.getD k759.toNat (([] : List (List UInt8 × List UInt8)), ((0 : Int), (false, ((0 : Int), ((0 : Int), ((0 : Int), ((0 : Int), (false, (0 : Int)))))))))).2).2).2).2).2).1) < 0))
                  else some false
                else
                bif proto0 == 4 then
                  bif ((((((((f1.2.2.2.2.getD k759.toNat (([] : List (List UInt8 × List UInt8)), ((0 : Int), (false, ((0 : Int), ((0 : Int), ((0 : Int), ((0 : Int), (false, (0 : Int)))))))))).2).2).2).2).2).2).2).1 then
                    some true
                  else some (decide ((((((((f1.2.2.2.2.getD k759.toNat (([] : List (List UInt8 × List UInt8)), ((0 : Int), (false, ((0 : Int), ((0 : Int), ((0 : Int), ((0 : Int), (false, (0 : Int)))))))))).2).2).2).2).2).1) < 0))
                else some false) : Option Bool)).bind fun t762 =>
            bif t762 then
              some (.inr (.inr false))
            else some (.inl (IntKind.i64.wrap (k759 + 1)))
          else none
        else some (.inr (.inl ()))) 0 : Option (Unit ⊕ Bool))).bind fun e_ =>
    match e_ with
    | .inl _ =>
      some true
    | .inr t763 =>
      some t763
  | .inr t764 =>
    some t764
def polyglotref12_family.sig : Sig := ⟨[(.c (.int .i64)), (.agg (.pair .str (.pair (.int .i64) (.pair .str (.pair .str (.sl (.pair (.sl (.pair .str .str)) (.pair (.int .i64) (.pair .bool (.pair (.int .i64) (.pair (.int .i64) (.pair (.int .i64) (.pair (.int .i64) (.pair .bool (.int .i64)))))))))))))))], [(.c .bool)]⟩
noncomputable def polyglotref12_family.con (K : Nat) : Con := (mkCon polyglotref12_family.sig (fun x => polyglotref12_family.f K x.1 x.2))
noncomputable def polyglotref12_family.ht : HT := .seq .nil (.seq .nil (.seq (.seq .nil (.block (.loop ⟨13, [5, 7], [], ⟨[(5, .c (.v .bool)), (13, .c (.v (.int .i64)))], []⟩, [(.exit 0, ⟨[(5, .c (.v .bool))], []⟩)]⟩ .nil))) (.join ⟨4, [], [], ⟨[], []⟩, [(.normal, ⟨[], []⟩), (.ret, ⟨[(4, .c (.v .bool))], []⟩)]⟩ (.seq (.join ⟨5, [], [], ⟨[], []⟩, [(.normal, ⟨[(67, .c (.v .bool))], []⟩)]⟩ (.seq .nil .nil)) (.seq (.seq .nil (.block (.loop ⟨4, [], [], ⟨[(8, .c (.v (.int .i64)))], []⟩, [(.exit 2, ⟨[], []⟩), (.ret, ⟨[(4, .c (.v .bool))], []⟩)]⟩ (.seq .nil (.seq (.block (.seq .nil (.join ⟨9, [], [], ⟨[], []⟩, [(.normal, ⟨[(113, .c (.v .bool))], []⟩)]⟩ (.seq .nil .nil)))) .nil))))) .nil)))))
noncomputable def polyglotref12_family.cx (K : Nat) : Cx := ⟨tt, [(10, polyglotref12_Kinds.con K), (41, polyglotref12_Is.con K), (42, polyglotref12_unit.con K), (43, polyglotref12_labels.con K)], [], K, inlOf tt [(10, polyglotref12_Kinds.con K), (41, polyglotref12_Is.con K), (42, polyglotref12_unit.con K), (43, polyglotref12_labels.con K)] [] K (getBody []) 0⟩
theorem polyglotref12_family.eq (K : Nat) (x : PL polyglotref12_family.sig.ps) : evalF (polyglotref12_family.cx K) polyglotref12_family.sig (bodyOf Tryz.f20) polyglotref12_family.ht x = polyglotref12_family.f K x.1 x.2 := by kernel_rfl
theorem polyglotref12_family.fok (K : Nat) : FOK Tryz.prog polyglotref12_family.sig (fun x => polyglotref12_family.f K x.1 x.2) 20 := fok_of_eval (tt := tt) (cons := [(10, polyglotref12_Kinds.con K), (41, polyglotref12_Is.con K), (42, polyglotref12_unit.con K), (43, polyglotref12_labels.con K)]) (exts := []) (bodies := (getBody [])) (K := K) (d := 0) ⟨ttok, (getCon_cons (polyglotref12_Kinds.ok K) (getCon_cons (polyglotref12_Is.ok K) (getCon_cons (polyglotref12_unit.ok K) (getCon_cons (polyglotref12_labels.ok K) (fun _ _ => getCon_nil))))), (fun _ _ => getExt_nil), (fun _ _ => getBody_nil)⟩ draw bok20 (polyglotref12_family.eq K)
theorem polyglotref12_family.ok (K : Nat) : ConOK Tryz.prog 20 (polyglotref12_family.con K) := con_ok bok20 (polyglotref12_family.fok K)

noncomputable def polyglotref12_Why.f (K : Nat) (proto0 : Int) (b1 : List UInt8 × List (List UInt8 × Int × List UInt8 × List UInt8 × List (List (List UInt8 × List UInt8) × Int × Bool × Int × Int × Int × Int × Bool × Int))) : Option (List UInt8 × Bool) :=
  (((
      (polyglotref7_Check.f K b1).bind fun r766 =>
      bif r766 != 0 then some true
      else
      (polyglotref12_IsProto.f K proto0).bind fun r767 =>
      some (!r767)) : Option Bool)).bind fun t768 =>
  bif t768 then some (([] : List UInt8), false)
  else
  ((loopN K (fun (s_ : Int) =>
    match s_ with
    | i773 =>
      bif decide (i773 < (b1.2.length : Int)) then
        bif idx i773 b1.2.length then
          (polyglotref12_family.f K proto0 ((b1.2.getD i773.toNat (([] : List UInt8), ((0 : Int), (([] : List UInt8), (([] : List UInt8), ([] : List (List (List UInt8 × List UInt8) × Int × Bool × Int × Int × Int × Int × Bool × Int))))))).1, ((b1.2.getD i773.toNat (([] : List UInt8), ((0 : Int), (([] : List UInt8), (([] : List UInt8), ([] : List (List (List UInt8 × List UInt8) × Int × Bool × Int × Int × Int × Int × Bool × Int))))))).2).1, (((b1.2.getD i773.toNat (([] : List UInt8), ((0 : Int), (([] : List UInt8), (([] : List UInt8), ([] : List (List (List UInt8 × List UInt8) × Int × Bool × Int × Int × Int × Int × Bool × Int))))))).2).2).1, ((((b1.2.getD i773.toNat (([] : List UInt8), ((0 : Int), (([] : List UInt8), (([] : List UInt8), ([] : List (List (List UInt8 × List UInt8) × Int × Bool × Int × Int × Int × Int × Bool × Int))))))).2).2).2).1, ((((b1.2.getD i773.toNat (([] : List UInt8), ((0 : Int), (([] : List UInt8), (([] : List UInt8), ([] : List (List (List UInt8 × List UInt8) × Int × Bool × Int × Int × Int × Int × Bool × Int))))))).2).2).2).2)).bind fun r774 =>
          bif !r774 then
            bif idx i773 b1.2.length then
              some (.inr (.inr ((b1.2.getD i773.toNat (([] : List UInt8), ((0 : Int), (([] : List UInt8), (([] : List UInt8), ([] : List (List (List UInt8 × List UInt8) × Int × Bool × Int × Int × Int × Int × Bool × Int))))))).1, false)))
            else none
          else some (.inl (IntKind.i64.wrap (i773 + 1)))
        else none
      else some (.inr (.inl ()))) 0 : Option (Unit ⊕ (List UInt8 × Bool)))).bind fun e_ =>
  match e_ with
  | .inl _ =>
    some (([] : List UInt8), true)
  | .inr (t775, t776) =>
    some (t775, t776)
def polyglotref12_Why.sig : Sig := ⟨[(.c (.int .i64)), (.agg (.pair .str (.sl (.pair .str (.pair (.int .i64) (.pair .str (.pair .str (.sl (.pair (.sl (.pair .str .str)) (.pair (.int .i64) (.pair .bool (.pair (.int .i64) (.pair (.int .i64) (.pair (.int .i64) (.pair (.int .i64) (.pair .bool (.int .i64)))))))))))))))))], [(.c .str), (.c .bool)]⟩
noncomputable def polyglotref12_Why.con (K : Nat) : Con := (mkCon polyglotref12_Why.sig (fun x => polyglotref12_Why.f K x.1 x.2))
noncomputable def polyglotref12_Why.ht : HT := .seq .nil (.seq (.join ⟨6, [], [], ⟨[], []⟩, [(.normal, ⟨[(14, .c (.v .bool))], []⟩)]⟩ (.seq .nil .nil)) (.seq (.seq .nil (.block (.loop ⟨4, [], [], ⟨[(6, .c (.v (.int .i64)))], []⟩, [(.exit 0, ⟨[], []⟩), (.ret, ⟨[(4, .c (.v .str)), (5, .c (.v .bool))], []⟩)]⟩ .nil))) .nil))
noncomputable def polyglotref12_Why.cx (K : Nat) : Cx := ⟨tt, [(15, polyglotref7_Check.con K), (19, polyglotref12_IsProto.con K), (20, polyglotref12_family.con K)], [], K, inlOf tt [(15, polyglotref7_Check.con K), (19, polyglotref12_IsProto.con K), (20, polyglotref12_family.con K)] [] K (getBody []) 0⟩
theorem polyglotref12_Why.eq (K : Nat) (x : PL polyglotref12_Why.sig.ps) : evalF (polyglotref12_Why.cx K) polyglotref12_Why.sig (bodyOf Tryz.f8) polyglotref12_Why.ht x = polyglotref12_Why.f K x.1 x.2 := by kernel_rfl
theorem polyglotref12_Why.fok (K : Nat) : FOK Tryz.prog polyglotref12_Why.sig (fun x => polyglotref12_Why.f K x.1 x.2) 8 := fok_of_eval (tt := tt) (cons := [(15, polyglotref7_Check.con K), (19, polyglotref12_IsProto.con K), (20, polyglotref12_family.con K)]) (exts := []) (bodies := (getBody [])) (K := K) (d := 0) ⟨ttok, (getCon_cons (polyglotref7_Check.ok K) (getCon_cons (polyglotref12_IsProto.ok K) (getCon_cons (polyglotref12_family.ok K) (fun _ _ => getCon_nil)))), (fun _ _ => getExt_nil), (fun _ _ => getBody_nil)⟩ draw bok8 (polyglotref12_Why.eq K)
theorem polyglotref12_Why.ok (K : Nat) : ConOK Tryz.prog 8 (polyglotref12_Why.con K) := con_ok bok8 (polyglotref12_Why.fok K)

noncomputable def polyglotref12_Class.f (K : Nat) (proto0 : Int) (b1 : List UInt8 × List (List UInt8 × Int × List UInt8 × List UInt8 × List (List (List UInt8 × List UInt8) × Int × Bool × Int × Int × Int × Int × Bool × Int))) : Option Bool :=
  (polyglotref12_Why.f K proto0 b1).bind fun (r777, r778) =>
  some r778
def polyglotref12_Class.sig : Sig := ⟨[(.c (.int .i64)), (.agg (.pair .str (.sl (.pair .str (.pair (.int .i64) (.pair .str (.pair .str (.sl (.pair (.sl (.pair .str .str)) (.pair (.int .i64) (.pair .bool (.pair (.int .i64) (.pair (.int .i64) (.pair (.int .i64) (.pair (.int .i64) (.pair .bool (.int .i64)))))))))))))))))], [(.c .bool)]⟩
noncomputable def polyglotref12_Class.con (K : Nat) : Con := (mkCon polyglotref12_Class.sig (fun x => polyglotref12_Class.f K x.1 x.2))
noncomputable def polyglotref12_Class.ht : HT := .nil
noncomputable def polyglotref12_Class.cx (K : Nat) : Cx := ⟨tt, [(8, polyglotref12_Why.con K)], [], K, inlOf tt [(8, polyglotref12_Why.con K)] [] K (getBody []) 0⟩
theorem polyglotref12_Class.eq (K : Nat) (x : PL polyglotref12_Class.sig.ps) : evalF (polyglotref12_Class.cx K) polyglotref12_Class.sig (bodyOf Tryz.f12) polyglotref12_Class.ht x = polyglotref12_Class.f K x.1 x.2 := by kernel_rfl
theorem polyglotref12_Class.fok (K : Nat) : FOK Tryz.prog polyglotref12_Class.sig (fun x => polyglotref12_Class.f K x.1 x.2) 12 := fok_of_eval (tt := tt) (cons := [(8, polyglotref12_Why.con K)]) (exts := []) (bodies := (getBody [])) (K := K) (d := 0) ⟨ttok, (getCon_cons (polyglotref12_Why.ok K) (fun _ _ => getCon_nil)), (fun _ _ => getExt_nil), (fun _ _ => getBody_nil)⟩ draw bok12 (polyglotref12_Class.eq K)
theorem polyglotref12_Class.ok (K : Nat) : ConOK Tryz.prog 12 (polyglotref12_Class.con K) := con_ok bok12 (polyglotref12_Class.fok K)

noncomputable def polyglotlaw16_ClassTells.f (K : Nat) (b0 : List UInt8 × List (List UInt8 × Int × List UInt8 × List UInt8 × List (List (List UInt8 × List UInt8) × Int × Bool × Int × Int × Int × Int × Bool × Int))) (proto1 : Int) (v2 : List UInt8) : Option Bool :=
  (polyglotlaw16_known.f K).bind fun r779 =>
  bif !r779 then some false
  else
  (((
      (polyglothelp_Wide.f K b0).bind fun r781 =>
      bif r781 then
        some true
      else some (decide ((v2.length : Int) > 200))) : Option Bool)).bind fun t782 =>
  bif t782 then some true
  else
  ((loopN K (fun (s_ : Int) =>
    match s_ with
    | p813 =>
      bif decide (p813 < 7) then
        (((
            bif p813 == 6 then
              some proto1
            else some p813) : Option Int)).bind fun q814 =>
        (class_Why.f K q814 b0).bind fun (r815, r816) =>
        (polyglotref12_Why.f K q814 b0).bind fun (r817, r818) =>
        (class_Kinds.f K q814).bind fun r819 =>
        (polyglotref12_Kinds.f K q814).bind fun r820 =>
        (((
            bif !(r815 == r817) then some true
            else
            bif !(r816 == r818) then some true
            else
            (class_Is.f K q814 b0).bind fun r821 =>
            (polyglotref12_Class.f K q814 b0).bind fun r822 =>
            bif !(r821 == r822) then some true
            else
            (class_Value.f K q814 v2).bind fun r823 =>
            (polyglotref12_Value.f K q814 v2).bind fun r824 =>
            bif !(r823 == r824) then
              some true
            else some ((r819.length : Int) != (r820.length : Int))) : Option Bool)).bind fun t825 =>
        bif t825 then some (.inr (.inr false))
        else
        ((loopN K (fun (s_ : Int) =>
          match s_ with
          | i828 =>
            bif decide (i828 < (r819.length : Int)) then
              bif idx i828 r819.length then
                bif idx i828 r820.length then
                  bif (r819.getD i828.toNat (0 : Int)) != (r820.getD i828.toNat (0 : Int)) then
                    some (.inr (.inr false))
                  else some (.inl (IntKind.i64.wrap (i828 + 1)))
                else none
              else none
            else some (.inr (.inl ()))) 0 : Option (Unit ⊕ Bool))).bind fun e_ =>
        match e_ with
        | .inl _ =>
          some (.inl (IntKind.i64.wrap (p813 + 1)))
        | .inr t829 =>
          some (.inr (.inr t829))
      else some (.inr (.inl ()))) 0 : Option (Unit ⊕ Bool))).bind fun e_ =>
  match e_ with
  | .inl _ =>
    some true
  | .inr t830 =>
    some t830
def polyglotlaw16_ClassTells.sig : Sig := ⟨[(.agg (.pair .str (.sl (.pair .str (.pair (.int .i64) (.pair .str (.pair .str (.sl (.pair (.sl (.pair .str .str)) (.pair (.int .i64) (.pair .bool (.pair (.int .i64) (.pair (.int .i64) (.pair (.int .i64) (.pair (.int .i64) (.pair .bool (.int .i64))))))))))))))))), (.c (.int .i64)), (.c .str)], [(.c .bool)]⟩
noncomputable def polyglotlaw16_ClassTells.con (K : Nat) : Con := (mkCon polyglotlaw16_ClassTells.sig (fun x => polyglotlaw16_ClassTells.f K x.1 x.2.1 x.2.2))
noncomputable def polyglotlaw16_ClassTells.ht : HT := .seq .nil (.seq .nil (.seq (.join ⟨7, [], [], ⟨[], []⟩, [(.normal, ⟨[(24, .c (.v .bool))], []⟩)]⟩ (.seq .nil .nil)) (.seq (.seq .nil (.block (.loop ⟨4, [], [], ⟨[(7, .c (.v (.int .i64)))], []⟩, [(.exit 0, ⟨[], []⟩), (.ret, ⟨[(6, .c (.v .bool))], []⟩)]⟩ (.seq .nil (.seq (.block (.seq .nil (.join ⟨8, [], [], ⟨[], []⟩, [(.normal, ⟨[(8, .c (.v (.int .i64)))], []⟩)]⟩ (.seq .nil (.seq .nil (.seq .nil (.seq .nil (.seq (.join ⟨15, [], [], ⟨[], []⟩, [(.normal, ⟨[(81, .c (.v .bool))], []⟩)]⟩ (.seq .nil .nil)) (.seq .nil (.block (.loop ⟨15, [6], [], ⟨[(15, .c (.v (.int .i64)))], []⟩, [(.exit 2, ⟨[], []⟩), (.ret, ⟨[(6, .c (.v .bool))], []⟩)]⟩ .nil))))))))))) .nil))))) .nil)))
noncomputable def polyglotlaw16_ClassTells.cx (K : Nat) : Cx := ⟨tt, [(5, polyglotlaw16_known.con K), (6, polyglothelp_Wide.con K), (7, class_Why.con K), (8, polyglotref12_Why.con K), (9, class_Kinds.con K), (10, polyglotref12_Kinds.con K), (11, class_Is.con K), (12, polyglotref12_Class.con K), (13, class_Value.con K), (14, polyglotref12_Value.con K)], [], K, inlOf tt [(5, polyglotlaw16_known.con K), (6, polyglothelp_Wide.con K), (7, class_Why.con K), (8, polyglotref12_Why.con K), (9, class_Kinds.con K), (10, polyglotref12_Kinds.con K), (11, class_Is.con K), (12, polyglotref12_Class.con K), (13, class_Value.con K), (14, polyglotref12_Value.con K)] [] K (getBody []) 0⟩
theorem polyglotlaw16_ClassTells.eq (K : Nat) (x : PL polyglotlaw16_ClassTells.sig.ps) : evalF (polyglotlaw16_ClassTells.cx K) polyglotlaw16_ClassTells.sig (bodyOf Tryz.f3) polyglotlaw16_ClassTells.ht x = polyglotlaw16_ClassTells.f K x.1 x.2.1 x.2.2 := by kernel_rfl
theorem polyglotlaw16_ClassTells.fok (K : Nat) : FOK Tryz.prog polyglotlaw16_ClassTells.sig (fun x => polyglotlaw16_ClassTells.f K x.1 x.2.1 x.2.2) 3 := fok_of_eval (tt := tt) (cons := [(5, polyglotlaw16_known.con K), (6, polyglothelp_Wide.con K), (7, class_Why.con K), (8, polyglotref12_Why.con K), (9, class_Kinds.con K), (10, polyglotref12_Kinds.con K), (11, class_Is.con K), (12, polyglotref12_Class.con K), (13, class_Value.con K), (14, polyglotref12_Value.con K)]) (exts := []) (bodies := (getBody [])) (K := K) (d := 0) ⟨ttok, (getCon_cons (polyglotlaw16_known.ok K) (getCon_cons (polyglothelp_Wide.ok K) (getCon_cons (class_Why.ok K) (getCon_cons (polyglotref12_Why.ok K) (getCon_cons (class_Kinds.ok K) (getCon_cons (polyglotref12_Kinds.ok K) (getCon_cons (class_Is.ok K) (getCon_cons (polyglotref12_Class.ok K) (getCon_cons (class_Value.ok K) (getCon_cons (polyglotref12_Value.ok K) (fun _ _ => getCon_nil))))))))))), (fun _ _ => getExt_nil), (fun _ _ => getBody_nil)⟩ draw bok3 (polyglotlaw16_ClassTells.eq K)
theorem polyglotlaw16_ClassTells.ok (K : Nat) : ConOK Tryz.prog 3 (polyglotlaw16_ClassTells.con K) := con_ok bok3 (polyglotlaw16_ClassTells.fok K)

noncomputable def polyglotlaw16_ClassWhole.f (K : Nat) (b0 : List UInt8 × List (List UInt8 × Int × List UInt8 × List UInt8 × List (List (List UInt8 × List UInt8) × Int × Bool × Int × Int × Int × Int × Bool × Int))) (proto1 : Int) : Option Bool :=
  (polyglotlaw16_known.f K).bind fun r831 =>
  bif !r831 then some false
  else
  (((
      (polyglothelp_Wide.f K b0).bind fun r833 =>
      bif r833 then some true
      else
      (polyglotref7_Check.f K b0).bind fun r834 =>
      some (r834 != 0)) : Option Bool)).bind fun t835 =>
  bif t835 then some true
  else
  ((loopN K (fun (s_ : List UInt8 × Bool × Int) =>
    match s_ with
    | (want840, ok841, i842) =>
      bif decide (i842 < (b0.2.length : Int)) then
        bif (decide (0 ≤ i842)) && (decide (i842 ≤ (IntKind.i64.wrap (i842 + 1)))) && (decide ((IntKind.i64.wrap (i842 + 1)) ≤ (b0.2.length : Int))) then
          (class_Is.f K (IntKind.i64.wrap (1 + (IntKind.i64.wrap (Int.tmod proto1 4)))) (b0.1, (b0.2.take ((IntKind.i64.wrap (i842 + 1)).toNat)).drop i842.toNat)).bind fun r843 =>
          bif ok841 then
            bif !r843 then
              bif idx i842 b0.2.length then
                some (.inl ((b0.2.getD i842.toNat (([] : List UInt8), ((0 : Int), (([] : List UInt8), (([] : List UInt8), ([] : List (List (List UInt8 × List UInt8) × Int × Bool × Int × Int × Int × Int × Bool × Int))))))).1, false, IntKind.i64.wrap (i842 + 1)))
              else none
            else some (.inl (want840, ok841, IntKind.i64.wrap (i842 + 1)))
          else some (.inl (want840, ok841, IntKind.i64.wrap (i842 + 1)))
        else none
      else some (.inr (want840, ok841))) (([] : List UInt8), true, 0) : Option (List UInt8 × Bool))).bind fun (want844, ok845) =>
  (class_Why.f K (IntKind.i64.wrap (1 + (IntKind.i64.wrap (Int.tmod proto1 4)))) b0).bind fun (r846, r847) =>
  bif r846 == want844 then
    bif r847 == ok845 then
      (class_Is.f K (IntKind.i64.wrap (1 + (IntKind.i64.wrap (Int.tmod proto1 4)))) b0).bind fun r848 =>
      some (r848 == ok845)
    else some false
  else some false
def polyglotlaw16_ClassWhole.sig : Sig := ⟨[(.agg (.pair .str (.sl (.pair .str (.pair (.int .i64) (.pair .str (.pair .str (.sl (.pair (.sl (.pair .str .str)) (.pair (.int .i64) (.pair .bool (.pair (.int .i64) (.pair (.int .i64) (.pair (.int .i64) (.pair (.int .i64) (.pair .bool (.int .i64))))))))))))))))), (.c (.int .u8))], [(.c .bool)]⟩
noncomputable def polyglotlaw16_ClassWhole.con (K : Nat) : Con := (mkCon polyglotlaw16_ClassWhole.sig (fun x => polyglotlaw16_ClassWhole.f K x.1 x.2))
noncomputable def polyglotlaw16_ClassWhole.ht : HT := .seq .nil (.seq .nil (.seq (.join ⟨5, [], [], ⟨[], []⟩, [(.normal, ⟨[(20, .c (.v .bool))], []⟩)]⟩ (.seq .nil .nil)) (.seq .nil (.seq .nil (.seq (.seq .nil (.block (.loop ⟨6, [], [], ⟨[(6, .c (.v .str)), (7, .c (.v .bool)), (8, .c (.v (.int .i64)))], []⟩, [(.exit 0, ⟨[(6, .c (.v .str)), (7, .c (.v .bool))], []⟩)]⟩ .nil))) .nil)))))
noncomputable def polyglotlaw16_ClassWhole.cx (K : Nat) : Cx := ⟨tt, [(5, polyglotlaw16_known.con K), (6, polyglothelp_Wide.con K), (15, polyglotref7_Check.con K), (11, class_Is.con K), (7, class_Why.con K)], [], K, inlOf tt [(5, polyglotlaw16_known.con K), (6, polyglothelp_Wide.con K), (15, polyglotref7_Check.con K), (11, class_Is.con K), (7, class_Why.con K)] [] K (getBody []) 0⟩
theorem polyglotlaw16_ClassWhole.eq (K : Nat) (x : PL polyglotlaw16_ClassWhole.sig.ps) : evalF (polyglotlaw16_ClassWhole.cx K) polyglotlaw16_ClassWhole.sig (bodyOf Tryz.f4) polyglotlaw16_ClassWhole.ht x = polyglotlaw16_ClassWhole.f K x.1 x.2 := by kernel_rfl
theorem polyglotlaw16_ClassWhole.fok (K : Nat) : FOK Tryz.prog polyglotlaw16_ClassWhole.sig (fun x => polyglotlaw16_ClassWhole.f K x.1 x.2) 4 := fok_of_eval (tt := tt) (cons := [(5, polyglotlaw16_known.con K), (6, polyglothelp_Wide.con K), (15, polyglotref7_Check.con K), (11, class_Is.con K), (7, class_Why.con K)]) (exts := []) (bodies := (getBody [])) (K := K) (d := 0) ⟨ttok, (getCon_cons (polyglotlaw16_known.ok K) (getCon_cons (polyglothelp_Wide.ok K) (getCon_cons (polyglotref7_Check.ok K) (getCon_cons (class_Is.ok K) (getCon_cons (class_Why.ok K) (fun _ _ => getCon_nil)))))), (fun _ _ => getExt_nil), (fun _ _ => getBody_nil)⟩ draw bok4 (polyglotlaw16_ClassWhole.eq K)
theorem polyglotlaw16_ClassWhole.ok (K : Nat) : ConOK Tryz.prog 4 (polyglotlaw16_ClassWhole.con K) := con_ok bok4 (polyglotlaw16_ClassWhole.fok K)

end Go.Proofs.YtclmdnfkdpdacaaGreat
