/- What each function of the program comes to, and that it does, part 4. -/
import Derived.Test.YtclmdnfkdpdacaaGreatFnC
import Derived.KernelRfl
set_option linter.unusedVariables false
namespace Go.Proofs.YtclmdnfkdpdacaaGreat
open Go Go.Rf Go.Proofs Go.RowKit

noncomputable def polyglotref7_HasRole.f (K : Nat) (kind0 : Int) (role1 : Int) : Option Bool :=
  (polyglotref7_Roles.f K kind0).bind fun r502 =>
  ((loopN K (fun (s_ : Int) =>
    match s_ with
    | i505 =>
      bif decide (i505 < (r502.length : Int)) then
        bif idx i505 r502.length then
          bif (r502.getD i505.toNat (0 : Int)) == role1 then
            some (.inr (.inr true))
          else some (.inl (IntKind.i64.wrap (i505 + 1)))
        else none
      else some (.inr (.inl ()))) 0 : Option (Unit ⊕ Bool))).bind fun e_ =>
  match e_ with
  | .inl _ =>
    some false
  | .inr t506 =>
    some t506
def polyglotref7_HasRole.sig : Sig := ⟨[(.c (.int .i64)), (.c (.int .i64))], [(.c .bool)]⟩
noncomputable def polyglotref7_HasRole.con (K : Nat) : Con := (mkCon polyglotref7_HasRole.sig (fun x => polyglotref7_HasRole.f K x.1 x.2))
noncomputable def polyglotref7_HasRole.ht : HT := .seq .nil (.seq .nil (.seq (.seq .nil (.block (.loop ⟨6, [4], [], ⟨[(6, .c (.v (.int .i64)))], []⟩, [(.exit 0, ⟨[], []⟩), (.ret, ⟨[(4, .c (.v .bool))], []⟩)]⟩ .nil))) .nil))
noncomputable def polyglotref7_HasRole.cx (K : Nat) : Cx := ⟨tt, [(100, polyglotref7_Roles.con K)], [], K, inlOf tt [(100, polyglotref7_Roles.con K)] [] K (getBody []) 0⟩
theorem polyglotref7_HasRole.eq (K : Nat) (x : PL polyglotref7_HasRole.sig.ps) : evalF (polyglotref7_HasRole.cx K) polyglotref7_HasRole.sig (bodyOf Tryz.f70) polyglotref7_HasRole.ht x = polyglotref7_HasRole.f K x.1 x.2 := by kernel_rfl
theorem polyglotref7_HasRole.fok (K : Nat) : FOK Tryz.prog polyglotref7_HasRole.sig (fun x => polyglotref7_HasRole.f K x.1 x.2) 70 := fok_of_eval (tt := tt) (cons := [(100, polyglotref7_Roles.con K)]) (exts := []) (bodies := (getBody [])) (K := K) (d := 0) ⟨ttok, (getCon_cons (polyglotref7_Roles.ok K) (fun _ _ => getCon_nil)), (fun _ _ => getExt_nil), (fun _ _ => getBody_nil)⟩ draw bok70 (polyglotref7_HasRole.eq K)
theorem polyglotref7_HasRole.ok (K : Nat) : ConOK Tryz.prog 70 (polyglotref7_HasRole.con K) := con_ok bok70 (polyglotref7_HasRole.fok K)

noncomputable def polyglotref7_Labels.f (K : Nat) (l0 : List (List UInt8 × List UInt8)) : Option Bool :=
  bif decide ((l0.length : Int) > 8) then some false
  else
  ((loopN K (fun (s_ : Int) =>
    match s_ with
    | i517 =>
      bif decide (i517 < (l0.length : Int)) then
        (((
            bif idx i517 l0.length then
              (polyglotref7_Name.f K ((l0.getD i517.toNat (([] : List UInt8), ([] : List UInt8))).1)).bind fun r519 =>
              bif !r519 then some true
              else
              bif idx i517 l0.length then
                (polyglotref7_Value.f K ((l0.getD i517.toNat (([] : List UInt8), ([] : List UInt8))).2)).bind fun r520 =>
                bif !r520 then some true
                else
                bif decide (i517 > 0) then
                  bif idx (IntKind.i64.wrap (i517 - 1)) l0.length then
                    bif idx i517 l0.length then
                      some (!(Op.bytesLess ((l0.getD ((IntKind.i64.wrap (i517 - 1)).toNat) (([] : List UInt8), ([] : List UInt8))).1) ((l0.getD i517.toNat (([] : List UInt8), ([] : List UInt8))).1)))
                    else none
                  else none
                else some false
              else none
            else none) : Option Bool)).bind fun t521 =>
        bif t521 then
          some (.inr (.inr false))
        else some (.inl (IntKind.i64.wrap (i517 + 1)))
      else some (.inr (.inl ()))) 0 : Option (Unit ⊕ Bool))).bind fun e_ =>
  match e_ with
  | .inl _ =>
    some true
  | .inr t522 =>
    some t522
def polyglotref7_Labels.sig : Sig := ⟨[(.c (.sl (.pair .str .str)))], [(.c .bool)]⟩
noncomputable def polyglotref7_Labels.con (K : Nat) : Con := (mkCon polyglotref7_Labels.sig (fun x => polyglotref7_Labels.f K x))
noncomputable def polyglotref7_Labels.ht : HT := .seq .nil (.seq .nil (.seq (.seq .nil (.block (.loop ⟨1, [], [], ⟨[(3, .c (.v (.int .i64)))], []⟩, [(.exit 0, ⟨[], []⟩), (.ret, ⟨[(2, .c (.v .bool))], []⟩)]⟩ (.seq .nil (.seq (.block (.join ⟨4, [], [], ⟨[], []⟩, [(.normal, ⟨[(46, .c (.v .bool))], []⟩)]⟩ (.seq .nil .nil))) .nil))))) .nil))
noncomputable def polyglotref7_Labels.cx (K : Nat) : Cx := ⟨tt, [(48, polyglotref7_Name.con K), (24, polyglotref7_Value.con K)], [], K, inlOf tt [(48, polyglotref7_Name.con K), (24, polyglotref7_Value.con K)] [] K (getBody []) 0⟩
theorem polyglotref7_Labels.eq (K : Nat) (x : PL polyglotref7_Labels.sig.ps) : evalF (polyglotref7_Labels.cx K) polyglotref7_Labels.sig (bodyOf Tryz.f71) polyglotref7_Labels.ht x = polyglotref7_Labels.f K x := by kernel_rfl
theorem polyglotref7_Labels.fok (K : Nat) : FOK Tryz.prog polyglotref7_Labels.sig (fun x => polyglotref7_Labels.f K x) 71 := fok_of_eval (tt := tt) (cons := [(48, polyglotref7_Name.con K), (24, polyglotref7_Value.con K)]) (exts := []) (bodies := (getBody [])) (K := K) (d := 0) ⟨ttok, (getCon_cons (polyglotref7_Name.ok K) (getCon_cons (polyglotref7_Value.ok K) (fun _ _ => getCon_nil))), (fun _ _ => getExt_nil), (fun _ _ => getBody_nil)⟩ draw bok71 (polyglotref7_Labels.eq K)
theorem polyglotref7_Labels.ok (K : Nat) : ConOK Tryz.prog 71 (polyglotref7_Labels.con K) := con_ok bok71 (polyglotref7_Labels.fok K)

noncomputable def polyglotref1_Good.f (K : Nat) (d0 : Int × Int) : Option Bool :=
  bif decide (d0.2 ≥ 0) then
    bif decide (d0.2 ≤ 18) then
      bif d0.1 != (-9223372036854775808) then
        bif d0.2 == 0 then
          some true
        else some ((Int.tmod d0.1 10) != 0)
      else some false
    else some false
  else some false
def polyglotref1_Good.sig : Sig := ⟨[(.agg (.pair (.int .i64) (.int .i64)))], [(.c .bool)]⟩
noncomputable def polyglotref1_Good.con (K : Nat) : Con := (mkCon polyglotref1_Good.sig (fun x => polyglotref1_Good.f K x))
noncomputable def polyglotref1_Good.ht : HT := .nil
noncomputable def polyglotref1_Good.cx (K : Nat) : Cx := ⟨tt, [], [], K, inlOf tt [] [] K (getBody []) 0⟩
theorem polyglotref1_Good.eq (K : Nat) (x : PL polyglotref1_Good.sig.ps) : evalF (polyglotref1_Good.cx K) polyglotref1_Good.sig (bodyOf Tryz.f72) polyglotref1_Good.ht x = polyglotref1_Good.f K x := by kernel_rfl
theorem polyglotref1_Good.fok (K : Nat) : FOK Tryz.prog polyglotref1_Good.sig (fun x => polyglotref1_Good.f K x) 72 := fok_of_eval (tt := tt) (cons := []) (exts := []) (bodies := (getBody [])) (K := K) (d := 0) ⟨ttok, (fun _ _ => getCon_nil), (fun _ _ => getExt_nil), (fun _ _ => getBody_nil)⟩ draw bok72 (polyglotref1_Good.eq K)
theorem polyglotref1_Good.ok (K : Nat) : ConOK Tryz.prog 72 (polyglotref1_Good.con K) := con_ok bok72 (polyglotref1_Good.fok K)

noncomputable def polyglotref1_tens.f (K : Nat) (a0 : List Int) (n1 : Int) : Option (List Int) :=
  bif (a0.length : Int) == 0 then some ([] : List Int)
  else
  bif decide (a0.length * 1 ≤ LIM) then
    bif (((decide (0 ≤ n1)) && (decide (n1 * (1 : Int) ≤ (LIM : Int)))) && (decide (n1 ≤ (LIM : Int)))) && (decide ((a0.length + (List.replicate n1.toNat (0 : Int) : List Int).length) * 1 ≤ LIM)) then
      some (a0 ++ (List.replicate n1.toNat (0 : Int) : List Int))
    else none
  else none
def polyglotref1_tens.sig : Sig := ⟨[(.c (.sl (.int .u8))), (.c (.int .i64))], [(.c (.sl (.int .u8)))]⟩
noncomputable def polyglotref1_tens.con (K : Nat) : Con := (mkCon polyglotref1_tens.sig (fun x => polyglotref1_tens.f K x.1 x.2))
noncomputable def polyglotref1_tens.ht : HT := .nil
noncomputable def polyglotref1_tens.cx (K : Nat) : Cx := ⟨tt, [], [], K, inlOf tt [] [] K (getBody []) 0⟩
theorem polyglotref1_tens.eq (K : Nat) (x : PL polyglotref1_tens.sig.ps) : evalF (polyglotref1_tens.cx K) polyglotref1_tens.sig (bodyOf Tryz.f101) polyglotref1_tens.ht x = polyglotref1_tens.f K x.1 x.2 := by kernel_rfl
theorem polyglotref1_tens.fok (K : Nat) : FOK Tryz.prog polyglotref1_tens.sig (fun x => polyglotref1_tens.f K x.1 x.2) 101 := fok_of_eval (tt := tt) (cons := []) (exts := []) (bodies := (getBody [])) (K := K) (d := 0) ⟨ttok, (fun _ _ => getCon_nil), (fun _ _ => getExt_nil), (fun _ _ => getBody_nil)⟩ draw bok101 (polyglotref1_tens.eq K)
theorem polyglotref1_tens.ok (K : Nat) : ConOK Tryz.prog 101 (polyglotref1_tens.con K) := con_ok bok101 (polyglotref1_tens.fok K)

noncomputable def polyglotref1_digits.f (K : Nat) (n0 : Int) : Option (List Int) :=
  ((loopN K (fun (s_ : Int × List Int) =>
    match s_ with
    | (n527, out528) =>
      bif decide (n527 > 0) then
        bif decide ((([IntKind.u8.wrap (Int.tmod n527 10)] : List Int).length + out528.length) * 1 ≤ LIM) then
          some (.inl (IntKind.u64.wrap (Int.tdiv n527 10), (([IntKind.u8.wrap (Int.tmod n527 10)] : List Int) ++ out528)))
        else none
      else some (.inr out528)) (n0, ([] : List Int)) : Option (List Int))).bind fun out529 =>
  some out529
def polyglotref1_digits.sig : Sig := ⟨[(.c (.int .u64))], [(.c (.sl (.int .u8)))]⟩
noncomputable def polyglotref1_digits.con (K : Nat) : Con := (mkCon polyglotref1_digits.sig (fun x => polyglotref1_digits.f K x))
noncomputable def polyglotref1_digits.ht : HT := .seq .nil (.seq .nil (.seq (.block (.loop ⟨3, [0], [], ⟨[(0, .c (.v (.int .u64))), (3, .c (.row 5 (.int .u8)))], []⟩, [(.exit 0, ⟨[(3, .c (.row 5 (.int .u8)))], []⟩)]⟩ .nil)) .nil))
noncomputable def polyglotref1_digits.cx (K : Nat) : Cx := ⟨tt, [], [], K, inlOf tt [] [] K (getBody []) 0⟩
theorem polyglotref1_digits.eq (K : Nat) (x : PL polyglotref1_digits.sig.ps) : evalF (polyglotref1_digits.cx K) polyglotref1_digits.sig (bodyOf Tryz.f118) polyglotref1_digits.ht x = polyglotref1_digits.f K x := by kernel_rfl
theorem polyglotref1_digits.fok (K : Nat) : FOK Tryz.prog polyglotref1_digits.sig (fun x => polyglotref1_digits.f K x) 118 := fok_of_eval (tt := tt) (cons := []) (exts := []) (bodies := (getBody [])) (K := K) (d := 0) ⟨ttok, (fun _ _ => getCon_nil), (fun _ _ => getExt_nil), (fun _ _ => getBody_nil)⟩ draw bok118 (polyglotref1_digits.eq K)
theorem polyglotref1_digits.ok (K : Nat) : ConOK Tryz.prog 118 (polyglotref1_digits.con K) := con_ok bok118 (polyglotref1_digits.fok K)

noncomputable def polyglotref1_amount.f (K : Nat) (m0 : Int) : Option (List Int) :=
  bif decide (m0 < 0) then
    (polyglotref1_digits.f K (IntKind.u64.wrap ((IntKind.u64.wrap (IntKind.i64.wrap (0 - IntKind.i64.wrap (m0 + 1)))) + 1))).bind fun r530 =>
    some r530
  else
  (polyglotref1_digits.f K (IntKind.u64.wrap (m0))).bind fun r531 =>
  some r531
def polyglotref1_amount.sig : Sig := ⟨[(.c (.int .i64))], [(.c (.sl (.int .u8)))]⟩
noncomputable def polyglotref1_amount.con (K : Nat) : Con := (mkCon polyglotref1_amount.sig (fun x => polyglotref1_amount.f K x))
noncomputable def polyglotref1_amount.ht : HT := .nil
noncomputable def polyglotref1_amount.cx (K : Nat) : Cx := ⟨tt, [(118, polyglotref1_digits.con K)], [], K, inlOf tt [(118, polyglotref1_digits.con K)] [] K (getBody []) 0⟩
theorem polyglotref1_amount.eq (K : Nat) (x : PL polyglotref1_amount.sig.ps) : evalF (polyglotref1_amount.cx K) polyglotref1_amount.sig (bodyOf Tryz.f102) polyglotref1_amount.ht x = polyglotref1_amount.f K x := by kernel_rfl
theorem polyglotref1_amount.fok (K : Nat) : FOK Tryz.prog polyglotref1_amount.sig (fun x => polyglotref1_amount.f K x) 102 := fok_of_eval (tt := tt) (cons := [(118, polyglotref1_digits.con K)]) (exts := []) (bodies := (getBody [])) (K := K) (d := 0) ⟨ttok, (getCon_cons (polyglotref1_digits.ok K) (fun _ _ => getCon_nil)), (fun _ _ => getExt_nil), (fun _ _ => getBody_nil)⟩ draw bok102 (polyglotref1_amount.eq K)
theorem polyglotref1_amount.ok (K : Nat) : ConOK Tryz.prog 102 (polyglotref1_amount.con K) := con_ok bok102 (polyglotref1_amount.fok K)

noncomputable def polyglotref1_compare.f (K : Nat) (a0 : List Int) (b1 : List Int) : Option Int :=
  bif (a0.length : Int) != (b1.length : Int) then
    bif decide ((a0.length : Int) < (b1.length : Int)) then
      some (-1)
    else some 1
  else
  ((loopN K (fun (s_ : Int) =>
    match s_ with
    | i534 =>
      bif decide (i534 < (a0.length : Int)) then
        bif idx i534 a0.length then
          bif idx i534 b1.length then
            bif decide ((a0.getD i534.toNat (0 : Int)) < (b1.getD i534.toNat (0 : Int))) then some (.inr (.inr (-1)))
            else
            bif idx i534 a0.length then
              bif idx i534 b1.length then
                bif decide ((a0.getD i534.toNat (0 : Int)) > (b1.getD i534.toNat (0 : Int))) then
                  some (.inr (.inr 1))
                else some (.inl (IntKind.i64.wrap (i534 + 1)))
              else none
            else none
          else none
        else none
      else some (.inr (.inl ()))) 0 : Option (Unit ⊕ Int))).bind fun e_ =>
  match e_ with
  | .inl _ =>
    some 0
  | .inr t535 =>
    some t535
def polyglotref1_compare.sig : Sig := ⟨[(.c (.sl (.int .u8))), (.c (.sl (.int .u8)))], [(.c (.int .i64))]⟩
noncomputable def polyglotref1_compare.con (K : Nat) : Con := (mkCon polyglotref1_compare.sig (fun x => polyglotref1_compare.f K x.1 x.2))
noncomputable def polyglotref1_compare.ht : HT := .seq .nil (.seq .nil (.seq (.seq .nil (.block (.loop ⟨2, [], [], ⟨[(5, .c (.v (.int .i64)))], []⟩, [(.exit 0, ⟨[], []⟩), (.ret, ⟨[(4, .c (.v (.int .i64)))], []⟩)]⟩ .nil))) .nil))
noncomputable def polyglotref1_compare.cx (K : Nat) : Cx := ⟨tt, [], [], K, inlOf tt [] [] K (getBody []) 0⟩
theorem polyglotref1_compare.eq (K : Nat) (x : PL polyglotref1_compare.sig.ps) : evalF (polyglotref1_compare.cx K) polyglotref1_compare.sig (bodyOf Tryz.f103) polyglotref1_compare.ht x = polyglotref1_compare.f K x.1 x.2 := by kernel_rfl
theorem polyglotref1_compare.fok (K : Nat) : FOK Tryz.prog polyglotref1_compare.sig (fun x => polyglotref1_compare.f K x.1 x.2) 103 := fok_of_eval (tt := tt) (cons := []) (exts := []) (bodies := (getBody [])) (K := K) (d := 0) ⟨ttok, (fun _ _ => getCon_nil), (fun _ _ => getExt_nil), (fun _ _ => getBody_nil)⟩ draw bok103 (polyglotref1_compare.eq K)
theorem polyglotref1_compare.ok (K : Nat) : ConOK Tryz.prog 103 (polyglotref1_compare.con K) := con_ok bok103 (polyglotref1_compare.fok K)

noncomputable def polyglotref1_Compare.f (K : Nat) (a0 : Int × Int) (b1 : Int × Int) : Option Int :=
  (((
      (polyglotref1_Good.f K a0).bind fun r538 =>
      bif !r538 then
        some ((0 : Int), (0 : Int))
      else some (a0.1, a0.2)) : Option (Int × Int))).bind fun (b0_539, b0_540) =>
  (((
      (polyglotref1_Good.f K b1).bind fun r543 =>
      bif !r543 then
        some ((0 : Int), (0 : Int))
      else some (b1.1, b1.2)) : Option (Int × Int))).bind fun (b1_544, b1_545) =>
  (polyglotref1_amount.f K b0_539).bind fun r546 =>
  (polyglotref1_tens.f K r546 (IntKind.i64.wrap (18 - b0_540))).bind fun r547 =>
  (polyglotref1_amount.f K b1_544).bind fun r548 =>
  (polyglotref1_tens.f K r548 (IntKind.i64.wrap (18 - b1_545))).bind fun r549 =>
  (((
      bif decide (b0_539 < 0) then
        some (decide (b1_544 < 0))
      else some false) : Option Bool)).bind fun t550 =>
  bif t550 then
    (polyglotref1_compare.f K r549 r547).bind fun r551 =>
    some r551
  else
  bif decide (b0_539 < 0) then some (-1)
  else
  bif decide (b1_544 < 0) then some 1
  else
  (polyglotref1_compare.f K r547 r549).bind fun r552 =>
  some r552
def polyglotref1_Compare.sig : Sig := ⟨[(.agg (.pair (.int .i64) (.int .i64))), (.agg (.pair (.int .i64) (.int .i64)))], [(.c (.int .i64))]⟩
noncomputable def polyglotref1_Compare.con (K : Nat) : Con := (mkCon polyglotref1_Compare.sig (fun x => polyglotref1_Compare.f K x.1 x.2))
noncomputable def polyglotref1_Compare.ht : HT := .seq .nil (.join ⟨5, [], [0], ⟨[], []⟩, [(.normal, ⟨[], [(0, .cells 44 [.v (.int .i64), .v (.int .i64)])]⟩)]⟩ (.seq .nil (.join ⟨5, [], [1], ⟨[], []⟩, [(.normal, ⟨[], [(1, .cells 44 [.v (.int .i64), .v (.int .i64)])]⟩)]⟩ (.seq .nil (.seq .nil (.seq (.block (.join ⟨7, [], [], ⟨[], []⟩, [(.normal, ⟨[(29, .c (.v .bool))], []⟩)]⟩ (.seq .nil .nil))) .nil))))))
noncomputable def polyglotref1_Compare.cx (K : Nat) : Cx := ⟨tt, [(72, polyglotref1_Good.con K), (102, polyglotref1_amount.con K), (101, polyglotref1_tens.con K), (103, polyglotref1_compare.con K)], [], K, inlOf tt [(72, polyglotref1_Good.con K), (102, polyglotref1_amount.con K), (101, polyglotref1_tens.con K), (103, polyglotref1_compare.con K)] [] K (getBody []) 0⟩
theorem polyglotref1_Compare.eq (K : Nat) (x : PL polyglotref1_Compare.sig.ps) : evalF (polyglotref1_Compare.cx K) polyglotref1_Compare.sig (bodyOf Tryz.f73) polyglotref1_Compare.ht x = polyglotref1_Compare.f K x.1 x.2 := by kernel_rfl
theorem polyglotref1_Compare.fok (K : Nat) : FOK Tryz.prog polyglotref1_Compare.sig (fun x => polyglotref1_Compare.f K x.1 x.2) 73 := fok_of_eval (tt := tt) (cons := [(72, polyglotref1_Good.con K), (102, polyglotref1_amount.con K), (101, polyglotref1_tens.con K), (103, polyglotref1_compare.con K)]) (exts := []) (bodies := (getBody [])) (K := K) (d := 0) ⟨ttok, (getCon_cons (polyglotref1_Good.ok K) (getCon_cons (polyglotref1_amount.ok K) (getCon_cons (polyglotref1_tens.ok K) (getCon_cons (polyglotref1_compare.ok K) (fun _ _ => getCon_nil))))), (fun _ _ => getExt_nil), (fun _ _ => getBody_nil)⟩ draw bok73 (polyglotref1_Compare.eq K)
theorem polyglotref1_Compare.ok (K : Nat) : ConOK Tryz.prog 73 (polyglotref1_Compare.con K) := con_ok bok73 (polyglotref1_Compare.fok K)

noncomputable def polyglotref1_IsTime.f (K : Nat) (ms0 : Int) : Option Bool :=
  bif decide (ms0 ≥ (-1125899906842624)) then
    some (decide (ms0 ≤ 1125899906842624))
  else some false
def polyglotref1_IsTime.sig : Sig := ⟨[(.c (.int .i64))], [(.c .bool)]⟩
noncomputable def polyglotref1_IsTime.con (K : Nat) : Con := (mkCon polyglotref1_IsTime.sig (fun x => polyglotref1_IsTime.f K x))
noncomputable def polyglotref1_IsTime.ht : HT := .nil
noncomputable def polyglotref1_IsTime.cx (K : Nat) : Cx := ⟨tt, [], [], K, inlOf tt [] [] K (getBody []) 0⟩
theorem polyglotref1_IsTime.eq (K : Nat) (x : PL polyglotref1_IsTime.sig.ps) : evalF (polyglotref1_IsTime.cx K) polyglotref1_IsTime.sig (bodyOf Tryz.f74) polyglotref1_IsTime.ht x = polyglotref1_IsTime.f K x := by kernel_rfl
theorem polyglotref1_IsTime.fok (K : Nat) : FOK Tryz.prog polyglotref1_IsTime.sig (fun x => polyglotref1_IsTime.f K x) 74 := fok_of_eval (tt := tt) (cons := []) (exts := []) (bodies := (getBody [])) (K := K) (d := 0) ⟨ttok, (fun _ _ => getCon_nil), (fun _ _ => getExt_nil), (fun _ _ => getBody_nil)⟩ draw bok74 (polyglotref1_IsTime.eq K)
theorem polyglotref1_IsTime.ok (K : Nat) : ConOK Tryz.prog 74 (polyglotref1_IsTime.con K) := con_ok bok74 (polyglotref1_IsTime.fok K)

noncomputable def polyglotref7_Get.f (K : Nat) (l0 : List (List UInt8 × List UInt8)) (name1 : List UInt8) : Option (List UInt8 × Bool) :=
  ((loopN K (fun (s_ : Int) =>
    match s_ with
    | i555 =>
      bif decide (i555 < (l0.length : Int)) then
        bif idx i555 l0.length then
          bif ((l0.getD i555.toNat (([] : List UInt8), ([] : List UInt8))).1) == name1 then
            bif idx i555 l0.length then
              some (.inr (.inr ((l0.getD i555.toNat (([] : List UInt8), ([] : List UInt8))).2, true)))
            else none
          else some (.inl (IntKind.i64.wrap (i555 + 1)))
        else none
      else some (.inr (.inl ()))) 0 : Option (Unit ⊕ (List UInt8 × Bool)))).bind fun e_ =>
  match e_ with
  | .inl _ =>
    some (([] : List UInt8), false)
  | .inr (t556, t557) =>
    some (t556, t557)
def polyglotref7_Get.sig : Sig := ⟨[(.c (.sl (.pair .str .str))), (.c .str)], [(.c .str), (.c .bool)]⟩
noncomputable def polyglotref7_Get.con (K : Nat) : Con := (mkCon polyglotref7_Get.sig (fun x => polyglotref7_Get.f K x.1 x.2))
noncomputable def polyglotref7_Get.ht : HT := .seq .nil (.seq (.seq .nil (.block (.loop ⟨2, [], [], ⟨[(6, .c (.v (.int .i64)))], []⟩, [(.exit 0, ⟨[], []⟩), (.ret, ⟨[(4, .c (.v .str)), (5, .c (.v .bool))], []⟩)]⟩ .nil))) .nil)
noncomputable def polyglotref7_Get.cx (K : Nat) : Cx := ⟨tt, [], [], K, inlOf tt [] [] K (getBody []) 0⟩
theorem polyglotref7_Get.eq (K : Nat) (x : PL polyglotref7_Get.sig.ps) : evalF (polyglotref7_Get.cx K) polyglotref7_Get.sig (bodyOf Tryz.f75) polyglotref7_Get.ht x = polyglotref7_Get.f K x.1 x.2 := by kernel_rfl
theorem polyglotref7_Get.fok (K : Nat) : FOK Tryz.prog polyglotref7_Get.sig (fun x => polyglotref7_Get.f K x.1 x.2) 75 := fok_of_eval (tt := tt) (cons := []) (exts := []) (bodies := (getBody [])) (K := K) (d := 0) ⟨ttok, (fun _ _ => getCon_nil), (fun _ _ => getExt_nil), (fun _ _ => getBody_nil)⟩ draw bok75 (polyglotref7_Get.eq K)
theorem polyglotref7_Get.ok (K : Nat) : ConOK Tryz.prog 75 (polyglotref7_Get.con K) := con_ok bok75 (polyglotref7_Get.fok K)

noncomputable def polyglotref7_Point.f (K : Nat) (t0 : Int) (o1 : List (List UInt8 × List UInt8) × Int × Bool × Int × Int × Int × Int × Bool × Int) : Option Bool :=
  (((
      (((
          (polyglotref7_HasRole.f K t0 o1.2.1).bind fun r571 =>
          bif !r571 then some true
          else
          (polyglotref7_Labels.f K o1.1).bind fun r572 =>
          bif !r572 then some true
          else
          bif o1.2.2.1 then
            bif o1.2.1 != 1 then some true
            else
            (polyglotref1_Good.f K (o1.2.2.2.2.2.1, o1.2.2.2.2.2.2.1)).bind fun r573 =>
            some (!r573)
          else
          (polyglotref1_Good.f K (o1.2.2.2.2.2.1, o1.2.2.2.2.2.2.1)).bind fun r574 =>
          some (!r574)) : Option Bool)).bind fun t575 =>
      bif t575 then
        some (.inr false)
      else some (.inl ())) : Option (Unit ⊕ Bool))).bind fun e_ =>
  match e_ with
  | .inl _ =>
    (((
        bif o1.2.1 == 1 then
          bif !o1.2.2.1 then
            some true
          else some (o1.2.1 == 2)
        else some (o1.2.1 == 2)) : Option Bool)).bind fun a576 =>
    (((
        (((
            bif !a576 then
              bif !((o1.2.2.2.1 == (0 : Int)) && ((o1.2.2.2.2.1 == (0 : Int)) && true)) then some true
              else
              bif a576 then
                (polyglotref1_Good.f K (o1.2.2.2.1, o1.2.2.2.2.1)).bind fun r583 =>
                some (!r583)
              else some false
            else
            bif a576 then
              (polyglotref1_Good.f K (o1.2.2.2.1, o1.2.2.2.2.1)).bind fun r584 =>
              some (!r584)
            else some false) : Option Bool)).bind fun t585 =>
        bif t585 then
          some (.inr false)
        else some (.inl ())) : Option (Unit ⊕ Bool))).bind fun e_ =>
    match e_ with
    | .inl _ =>
      (((
          bif o1.2.1 == 2 then
            bif decide (o1.2.2.2.1 < 0) then some (.inr false)
            else
            (polyglotref1_Compare.f K (o1.2.2.2.1, o1.2.2.2.2.1) (1, (0 : Int))).bind fun r587 =>
            bif decide (r587 > 0) then
              some (.inr false)
            else some (.inl ())
          else some (.inl ())) : Option (Unit ⊕ Bool))).bind fun e_ =>
      match e_ with
      | .inl _ =>
        (((
            bif decide (o1.2.2.2.2.2.1 < 0) then
              bif t0 == 2 then some (.inr false)
              else
              bif o1.2.1 == 1 then some (.inr false)
              else
              bif o1.2.1 == 3 then
                some (.inr false)
              else some (.inl ())
            else some (.inl ())) : Option (Unit ⊕ Bool))).bind fun e_ =>
        match e_ with
        | .inl _ =>
          (((
              bif !o1.2.2.2.2.2.2.2.1 then
                bif o1.2.2.2.2.2.2.2.2 != 0 then some (.inr false)
                else
                (polyglotref1_IsTime.f K o1.2.2.2.2.2.2.2.2).bind fun r589 =>
                bif !r589 then
                  some (.inr false)
                else some (.inl ())
              else
              (polyglotref1_IsTime.f K o1.2.2.2.2.2.2.2.2).bind fun r590 =>
              bif !r590 then
                some (.inr false)
              else some (.inl ())) : Option (Unit ⊕ Bool))).bind fun e_ =>
          match e_ with
          | .inl _ =>
            (polyglotref7_Get.f K o1.1 ([108, 101] : List UInt8)).bind fun (r591, r592) =>
            (polyglotref7_Get.f K o1.1 ([113, 117, 97, 110, 116, 105, 108, 101] : List UInt8)).bind fun (r593, r594) =>
            bif r592 then
              bif !(o1.2.1 == 1) then
                bif r594 then
                  some (!(o1.2.1 == 2))
                else some true
              else some false
            else
            bif r594 then
              some (!(o1.2.1 == 2))
            else some true
          | .inr r595 =>
            some r595
        | .inr r596 =>
          some r596
      | .inr r597 =>
        some r597
    | .inr r598 =>
      some r598
  | .inr r599 =>
    some r599
def polyglotref7_Point.sig : Sig := ⟨[(.c (.int .i64)), (.agg (.pair (.sl (.pair .str .str)) (.pair (.int .i64) (.pair .bool (.pair (.int .i64) (.pair (.int .i64) (.pair (.int .i64) (.pair (.int .i64) (.pair .bool (.int .i64))))))))))], [(.c .bool)]⟩
noncomputable def polyglotref7_Point.con (K : Nat) : Con := (mkCon polyglotref7_Point.sig (fun x => polyglotref7_Point.f K x.1 x.2))
noncomputable def polyglotref7_Point.ht : HT := .seq .nil (.join ⟨4, [], [], ⟨[], []⟩, [(.normal, ⟨[], []⟩), (.ret, ⟨[(4, .c (.v .bool))], []⟩)]⟩ (.seq (.join ⟨5, [], [], ⟨[], []⟩, [(.normal, ⟨[(35, .c (.v .bool))], []⟩)]⟩ (.seq .nil .nil)) (.join ⟨5, [], [], ⟨[], []⟩, [(.normal, ⟨[(5, .c (.v .bool))], []⟩)]⟩ (.seq .nil (.join ⟨4, [], [], ⟨[], []⟩, [(.normal, ⟨[], []⟩), (.ret, ⟨[(4, .c (.v .bool))], []⟩)]⟩ (.seq (.join ⟨5, [], [], ⟨[], []⟩, [(.normal, ⟨[(65, .c (.v .bool))], []⟩)]⟩ (.seq .nil .nil)) (.join ⟨4, [], [], ⟨[], []⟩, [(.normal, ⟨[], []⟩), (.ret, ⟨[(4, .c (.v .bool))], []⟩)]⟩ (.seq .nil (.join ⟨4, [], [], ⟨[], []⟩, [(.normal, ⟨[], []⟩), (.ret, ⟨[(4, .c (.v .bool))], []⟩)]⟩ (.seq .nil (.join ⟨4, [], [], ⟨[], []⟩, [(.normal, ⟨[], []⟩), (.ret, ⟨[(4, .c (.v .bool))], []⟩)]⟩ (.seq .nil .nil))))))))))))
noncomputable def polyglotref7_Point.cx (K : Nat) : Cx := ⟨tt, [(70, polyglotref7_HasRole.con K), (71, polyglotref7_Labels.con K), (72, polyglotref1_Good.con K), (73, polyglotref1_Compare.con K), (74, polyglotref1_IsTime.con K), (75, polyglotref7_Get.con K)], [], K, inlOf tt [(70, polyglotref7_HasRole.con K), (71, polyglotref7_Labels.con K), (72, polyglotref1_Good.con K), (73, polyglotref1_Compare.con K), (74, polyglotref1_IsTime.con K), (75, polyglotref7_Get.con K)] [] K (getBody []) 0⟩
theorem polyglotref7_Point.eq (K : Nat) (x : PL polyglotref7_Point.sig.ps) : evalF (polyglotref7_Point.cx K) polyglotref7_Point.sig (bodyOf Tryz.f50) polyglotref7_Point.ht x = polyglotref7_Point.f K x.1 x.2 := by kernel_rfl
theorem polyglotref7_Point.fok (K : Nat) : FOK Tryz.prog polyglotref7_Point.sig (fun x => polyglotref7_Point.f K x.1 x.2) 50 := fok_of_eval (tt := tt) (cons := [(70, polyglotref7_HasRole.con K), (71, polyglotref7_Labels.con K), (72, polyglotref1_Good.con K), (73, polyglotref1_Compare.con K), (74, polyglotref1_IsTime.con K), (75, polyglotref7_Get.con K)]) (exts := []) (bodies := (getBody [])) (K := K) (d := 0) ⟨ttok, (getCon_cons (polyglotref7_HasRole.ok K) (getCon_cons (polyglotref7_Labels.ok K) (getCon_cons (polyglotref1_Good.ok K) (getCon_cons (polyglotref1_Compare.ok K) (getCon_cons (polyglotref1_IsTime.ok K) (getCon_cons (polyglotref7_Get.ok K) (fun _ _ => getCon_nil))))))), (fun _ _ => getExt_nil), (fun _ _ => getBody_nil)⟩ draw bok50 (polyglotref7_Point.eq K)
theorem polyglotref7_Point.ok (K : Nat) : ConOK Tryz.prog 50 (polyglotref7_Point.con K) := con_ok bok50 (polyglotref7_Point.fok K)

noncomputable def polyglotref7_number.f (K : Nat) (a0 : Int) (b1 : Int) : Option Int :=
  bif decide (a0 < b1) then some (-1)
  else
  bif decide (a0 > b1) then
    some 1
  else some 0
def polyglotref7_number.sig : Sig := ⟨[(.c (.int .i64)), (.c (.int .i64))], [(.c (.int .i64))]⟩
noncomputable def polyglotref7_number.con (K : Nat) : Con := (mkCon polyglotref7_number.sig (fun x => polyglotref7_number.f K x.1 x.2))
noncomputable def polyglotref7_number.ht : HT := .nil
noncomputable def polyglotref7_number.cx (K : Nat) : Cx := ⟨tt, [], [], K, inlOf tt [] [] K (getBody []) 0⟩
theorem polyglotref7_number.eq (K : Nat) (x : PL polyglotref7_number.sig.ps) : evalF (polyglotref7_number.cx K) polyglotref7_number.sig (bodyOf Tryz.f78) polyglotref7_number.ht x = polyglotref7_number.f K x.1 x.2 := by kernel_rfl
theorem polyglotref7_number.fok (K : Nat) : FOK Tryz.prog polyglotref7_number.sig (fun x => polyglotref7_number.f K x.1 x.2) 78 := fok_of_eval (tt := tt) (cons := []) (exts := []) (bodies := (getBody [])) (K := K) (d := 0) ⟨ttok, (fun _ _ => getCon_nil), (fun _ _ => getExt_nil), (fun _ _ => getBody_nil)⟩ draw bok78 (polyglotref7_number.eq K)
theorem polyglotref7_number.ok (K : Nat) : ConOK Tryz.prog 78 (polyglotref7_number.con K) := con_ok bok78 (polyglotref7_number.fok K)

noncomputable def polyglotref7_text.f (K : Nat) (a0 : List UInt8) (b1 : List UInt8) : Option Int :=
  bif Op.bytesLess a0 b1 then some (-1)
  else
  bif !(Op.bytesLess a0 b1 || a0 == b1) then
    some 1
  else some 0
def polyglotref7_text.sig : Sig := ⟨[(.c .str), (.c .str)], [(.c (.int .i64))]⟩
noncomputable def polyglotref7_text.con (K : Nat) : Con := (mkCon polyglotref7_text.sig (fun x => polyglotref7_text.f K x.1 x.2))
noncomputable def polyglotref7_text.ht : HT := .nil
noncomputable def polyglotref7_text.cx (K : Nat) : Cx := ⟨tt, [], [], K, inlOf tt [] [] K (getBody []) 0⟩
theorem polyglotref7_text.eq (K : Nat) (x : PL polyglotref7_text.sig.ps) : evalF (polyglotref7_text.cx K) polyglotref7_text.sig (bodyOf Tryz.f104) polyglotref7_text.ht x = polyglotref7_text.f K x.1 x.2 := by kernel_rfl
theorem polyglotref7_text.fok (K : Nat) : FOK Tryz.prog polyglotref7_text.sig (fun x => polyglotref7_text.f K x.1 x.2) 104 := fok_of_eval (tt := tt) (cons := []) (exts := []) (bodies := (getBody [])) (K := K) (d := 0) ⟨ttok, (fun _ _ => getCon_nil), (fun _ _ => getExt_nil), (fun _ _ => getBody_nil)⟩ draw bok104 (polyglotref7_text.eq K)
theorem polyglotref7_text.ok (K : Nat) : ConOK Tryz.prog 104 (polyglotref7_text.con K) := con_ok bok104 (polyglotref7_text.fok K)

noncomputable def polyglotref7_CompareLabels.f (K : Nat) (a0 : List (List UInt8 × List UInt8)) (b1 : List (List UInt8 × List UInt8)) : Option Int :=
  ((loopN K (fun (s_ : Int) =>
    match s_ with
    | i607 =>
      (((
          bif decide (i607 < (a0.length : Int)) then
            some (decide (i607 < (b1.length : Int)))
          else some false) : Option Bool)).bind fun t608 =>
      bif t608 then
        bif idx i607 a0.length then
          bif idx i607 b1.length then
            (polyglotref7_text.f K ((a0.getD i607.toNat (([] : List UInt8), ([] : List UInt8))).1) ((b1.getD i607.toNat (([] : List UInt8), ([] : List UInt8))).1)).bind fun r609 =>
            bif r609 != 0 then some (.inr (.inr r609))
            else
            bif idx i607 a0.length then
              bif idx i607 b1.length then
                (polyglotref7_text.f K ((a0.getD i607.toNat (([] : List UInt8), ([] : List UInt8))).2) ((b1.getD i607.toNat (([] : List UInt8), ([] : List UInt8))).2)).bind fun r610 =>
                bif r610 != 0 then
                  some (.inr (.inr r610))
                else some (.inl (IntKind.i64.wrap (i607 + 1)))
              else none
            else none
          else none
        else none
      else some (.inr (.inl ()))) 0 : Option (Unit ⊕ Int))).bind fun e_ =>
  match e_ with
  | .inl _ =>
    (polyglotref7_number.f K (a0.length : Int) (b1.length : Int)).bind fun r611 =>
    some r611
  | .inr t612 =>
    some t612
def polyglotref7_CompareLabels.sig : Sig := ⟨[(.c (.sl (.pair .str .str))), (.c (.sl (.pair .str .str)))], [(.c (.int .i64))]⟩
noncomputable def polyglotref7_CompareLabels.con (K : Nat) : Con := (mkCon polyglotref7_CompareLabels.sig (fun x => polyglotref7_CompareLabels.f K x.1 x.2))
noncomputable def polyglotref7_CompareLabels.ht : HT := .seq .nil (.seq (.seq .nil (.block (.loop ⟨2, [], [], ⟨[(5, .c (.v (.int .i64)))], []⟩, [(.exit 0, ⟨[], []⟩), (.ret, ⟨[(4, .c (.v (.int .i64)))], []⟩)]⟩ (.seq (.join ⟨6, [], [], ⟨[], []⟩, [(.normal, ⟨[(17, .c (.v .bool))], []⟩)]⟩ (.seq .nil .nil)) .nil)))) .nil)
noncomputable def polyglotref7_CompareLabels.cx (K : Nat) : Cx := ⟨tt, [(104, polyglotref7_text.con K), (78, polyglotref7_number.con K)], [], K, inlOf tt [(104, polyglotref7_text.con K), (78, polyglotref7_number.con K)] [] K (getBody []) 0⟩
theorem polyglotref7_CompareLabels.eq (K : Nat) (x : PL polyglotref7_CompareLabels.sig.ps) : evalF (polyglotref7_CompareLabels.cx K) polyglotref7_CompareLabels.sig (bodyOf Tryz.f76) polyglotref7_CompareLabels.ht x = polyglotref7_CompareLabels.f K x.1 x.2 := by kernel_rfl
theorem polyglotref7_CompareLabels.fok (K : Nat) : FOK Tryz.prog polyglotref7_CompareLabels.sig (fun x => polyglotref7_CompareLabels.f K x.1 x.2) 76 := fok_of_eval (tt := tt) (cons := [(104, polyglotref7_text.con K), (78, polyglotref7_number.con K)]) (exts := []) (bodies := (getBody [])) (K := K) (d := 0) ⟨ttok, (getCon_cons (polyglotref7_text.ok K) (getCon_cons (polyglotref7_number.ok K) (fun _ _ => getCon_nil))), (fun _ _ => getExt_nil), (fun _ _ => getBody_nil)⟩ draw bok76 (polyglotref7_CompareLabels.eq K)
theorem polyglotref7_CompareLabels.ok (K : Nat) : ConOK Tryz.prog 76 (polyglotref7_CompareLabels.con K) := con_ok bok76 (polyglotref7_CompareLabels.fok K)

noncomputable def polyglotref7_flag.f (K : Nat) (b0 : Bool) : Option Int :=
  bif b0 then
    some 1
  else some 0
def polyglotref7_flag.sig : Sig := ⟨[(.c .bool)], [(.c (.int .i64))]⟩
noncomputable def polyglotref7_flag.con (K : Nat) : Con := (mkCon polyglotref7_flag.sig (fun x => polyglotref7_flag.f K x))
noncomputable def polyglotref7_flag.ht : HT := .nil
noncomputable def polyglotref7_flag.cx (K : Nat) : Cx := ⟨tt, [], [], K, inlOf tt [] [] K (getBody []) 0⟩
theorem polyglotref7_flag.eq (K : Nat) (x : PL polyglotref7_flag.sig.ps) : evalF (polyglotref7_flag.cx K) polyglotref7_flag.sig (bodyOf Tryz.f77) polyglotref7_flag.ht x = polyglotref7_flag.f K x := by kernel_rfl
theorem polyglotref7_flag.fok (K : Nat) : FOK Tryz.prog polyglotref7_flag.sig (fun x => polyglotref7_flag.f K x) 77 := fok_of_eval (tt := tt) (cons := []) (exts := []) (bodies := (getBody [])) (K := K) (d := 0) ⟨ttok, (fun _ _ => getCon_nil), (fun _ _ => getExt_nil), (fun _ _ => getBody_nil)⟩ draw bok77 (polyglotref7_flag.eq K)
theorem polyglotref7_flag.ok (K : Nat) : ConOK Tryz.prog 77 (polyglotref7_flag.con K) := con_ok bok77 (polyglotref7_flag.fok K)

noncomputable def polyglotref7_ComparePoints.f (K : Nat) (p0 : List (List UInt8 × List UInt8) × Int × Bool × Int × Int × Int × Int × Bool × Int) (q1 : List (List UInt8 × List UInt8) × Int × Bool × Int × Int × Int × Int × Bool × Int) : Option Int :=
  (polyglotref7_CompareLabels.f K p0.1 q1.1).bind fun r613 =>
  bif r613 != 0 then some r613
  else
  (polyglotref7_flag.f K p0.2.2.2.2.2.2.2.1).bind fun r614 =>
  (polyglotref7_flag.f K q1.2.2.2.2.2.2.2.1).bind fun r615 =>
  (polyglotref7_flag.f K p0.2.2.1).bind fun r616 =>
  (polyglotref7_flag.f K q1.2.2.1).bind fun r617 =>
  ((loopN K (fun (s_ : Int) =>
    match s_ with
    | i622 =>
      bif decide (i622 < 4) then
        bif idx i622 4 then
          bif decide (i622.toNat < 4) then
            bif idx i622 4 then
              bif decide (i622.toNat < 4) then
                (polyglotref7_number.f K ((([(r614, r615), (p0.2.2.2.2.2.2.2.2, q1.2.2.2.2.2.2.2.2), (p0.2.1, q1.2.1), (r616, r617)] : List (Int × Int)).getD i622.toNat ((0 : Int), (0 : Int))).1) ((([(r614, r615), (p0.2.2.2.2.2.2.2.2, q1.2.2.2.2.2.2.2.2), (p0.2.1, q1.2.1), (r616, r617)] : List (Int × Int)).getD i622.toNat ((0 : Int), (0 : Int))).2)).bind fun r623 =>
                bif r623 != 0 then
                  some (.inr (.inr r623))
                else some (.inl (IntKind.i64.wrap (i622 + 1)))
              else none
            else none
          else none
        else none
      else some (.inr (.inl ()))) 0 : Option (Unit ⊕ Int))).bind fun e_ =>
  match e_ with
  | .inl _ =>
    (polyglotref1_Compare.f K (p0.2.2.2.1, p0.2.2.2.2.1) (q1.2.2.2.1, q1.2.2.2.2.1)).bind fun r624 =>
    some r624
  | .inr t625 =>
    some t625
def polyglotref7_ComparePoints.sig : Sig := ⟨[(.agg (.pair (.sl (.pair .str .str)) (.pair (.int .i64) (.pair .bool (.pair (.int .i64) (.pair (.int .i64) (.pair (.int .i64) (.pair (.int .i64) (.pair .bool (.int .i64)))))))))), (.agg (.pair (.sl (.pair .str .str)) (.pair (.int .i64) (.pair .bool (.pair (.int .i64) (.pair (.int .i64) (.pair (.int .i64) (.pair (.int .i64) (.pair .bool (.int .i64))))))))))], [(.c (.int .i64))]⟩
noncomputable def polyglotref7_ComparePoints.con (K : Nat) : Con := (mkCon polyglotref7_ComparePoints.sig (fun x => polyglotref7_ComparePoints.f K x.1 x.2))
noncomputable def polyglotref7_ComparePoints.ht : HT := .seq .nil (.seq .nil (.seq .nil (.seq (.seq .nil (.block (.loop ⟨7, [4], [], ⟨[(7, .c (.v (.int .i64)))], []⟩, [(.exit 0, ⟨[], []⟩), (.ret, ⟨[(4, .c (.v (.int .i64)))], []⟩)]⟩ .nil))) .nil)))
noncomputable def polyglotref7_ComparePoints.cx (K : Nat) : Cx := ⟨tt, [(76, polyglotref7_CompareLabels.con K), (77, polyglotref7_flag.con K), (78, polyglotref7_number.con K), (73, polyglotref1_Compare.con K)], [], K, inlOf tt [(76, polyglotref7_CompareLabels.con K), (77, polyglotref7_flag.con K), (78, polyglotref7_number.con K), (73, polyglotref1_Compare.con K)] [] K (getBody []) 0⟩
theorem polyglotref7_ComparePoints.eq (K : Nat) (x : PL polyglotref7_ComparePoints.sig.ps) : evalF (polyglotref7_ComparePoints.cx K) polyglotref7_ComparePoints.sig (bodyOf Tryz.f51) polyglotref7_ComparePoints.ht x = polyglotref7_ComparePoints.f K x.1 x.2 := by kernel_rfl
theorem polyglotref7_ComparePoints.fok (K : Nat) : FOK Tryz.prog polyglotref7_ComparePoints.sig (fun x => polyglotref7_ComparePoints.f K x.1 x.2) 51 := fok_of_eval (tt := tt) (cons := [(76, polyglotref7_CompareLabels.con K), (77, polyglotref7_flag.con K), (78, polyglotref7_number.con K), (73, polyglotref1_Compare.con K)]) (exts := []) (bodies := (getBody [])) (K := K) (d := 0) ⟨ttok, (getCon_cons (polyglotref7_CompareLabels.ok K) (getCon_cons (polyglotref7_flag.ok K) (getCon_cons (polyglotref7_number.ok K) (getCon_cons (polyglotref1_Compare.ok K) (fun _ _ => getCon_nil))))), (fun _ _ => getExt_nil), (fun _ _ => getBody_nil)⟩ draw bok51 (polyglotref7_ComparePoints.eq K)
theorem polyglotref7_ComparePoints.ok (K : Nat) : ConOK Tryz.prog 51 (polyglotref7_ComparePoints.con K) := con_ok bok51 (polyglotref7_ComparePoints.fok K)

noncomputable def polyglotref7_Family.f (K : Nat) (f0 : List UInt8 × Int × List UInt8 × List UInt8 × List (List (List UInt8 × List UInt8) × Int × Bool × Int × Int × Int × Int × Bool × Int)) : Option Bool :=
  (((
      (polyglotref7_Name.f K f0.1).bind fun r627 =>
      bif !r627 then some true
      else
      (polyglotref7_IsKind.f K f0.2.1).bind fun r628 =>
      bif !r628 then some true
      else
      (polyglotref7_Value.f K f0.2.2.1).bind fun r629 =>
      bif !r629 then some true
      else
      (polyglotref7_Value.f K f0.2.2.2.1).bind fun r630 =>
      some (!r630)) : Option Bool)).bind fun t631 =>
  bif t631 then some false
  else
  ((loopN K (fun (s_ : Int) =>
    match s_ with
    | i637 =>
      bif decide (i637 < (f0.2.2.2.2.length : Int)) then
        bif idx i637 f0.2.2.2.2.length then
          (polyglotref7_Point.f K f0.2.1 ((f0.2.2.2.2.getD i637.toNat (([] : List (List UInt8 × List UInt8)), ((0 : Int), (false, ((0 : Int), ((0 : Int), ((0 : Int), ((0 : Int), (false, (0 : Int)))))))))).1, ((f0.2.2.2.2.getD i637.toNat (([] : List (List UInt8 × List UInt8)), ((0 : Int), (false, ((0 : Int), ((0 : Int), ((0 : Int), ((0 : Int), (false, (0 : Int)))))))))).2).1, (((f0.2.2.2.2.getD i637.toNat (([] : List (List UInt8 × List UInt8)), ((0 : Int), (false, ((0 : Int), ((0 : Int), ((0 : Int), ((0 : Int), (false, (0 : Int)))))))))).2).2).1, ((((f0.2.2.2.2.getD i637.toNat (([] : List (List UInt8 × List UInt8)), ((0 : Int), (false, ((0 : Int), ((0 : Int), ((0 : Int), ((0 : Int), (false, (0 : Int)))))))))).2).2).2).1, (((((f0.2.2.2.2.getD i637.toNat (([] : List (List UInt8 × List UInt8)), ((0 : Int), (false, ((0 : Int), ((0 : Int), ((0 : Int), ((0 : Int), (false, (0 : Int)))))))))).2).2).2).2).1, ((((((f0.2.2.2.2.getD i637.toNat (([] : List (List UInt8 × List UInt8)), ((0 : Int), (false, ((0 : Int), ((0 : Int), ((0 : Int), ((0 : Int), (false, (0 : Int)))))))))).2).2).2).2).2).1, (((((((f0.2.2.2.2.getD i637.toNat (([] : List (List UInt8 × List UInt8)), ((0 : Int), (false, ((0 : Int), ((0 : Int), ((0 : Int), ((0 : Int), (false, (0 : Int)))))))))).2).2).2).2).2).2).1, ((((((((f0.2.2.2.2.getD i637.toNat (([] : List (List UInt8 × List UInt8)), ((0 : Int), (false, ((0 : Int), ((0 : Int), ((0 : Int), ((0 : Int), (false, (0 : Int)))))))))).2).2).2).2).2).2).2).1, ((((((((f0.2.2.2.2.getD i637.toNat (([] : List (List UInt8 × List UInt8)), ((0 : Int), (false, ((0 : Int), ((0 : Int), ((0 : Int), ((0 : Int), (false, (0 : Int)))))))))).2).2).2).2).2).2).2).2)).bind fun r638 =>
          bif !r638 then some (.inr (.inr false))
          else
          bif decide (i637 > 0) then
            bif idx (IntKind.i64.wrap (i637 - 1)) f0.2.2.2.2.length then
              bif idx i637 f0.2.2.2.2.length then
                (polyglotref7_ComparePoints.f K ((f0.2.2.2.2.getD ((IntKind.i64.wrap (i637 - 1)).toNat) (([] : List (List UInt8 × List UInt8)), ((0 : Int), (false, ((0 : Int), ((0 : Int), ((0 : Int), ((0 : Int), (false, (0 : Int)))))))))).1, ((f0.2.2.2.2.getD ((IntKind.i64.wrap (i637 - 1)).toNat) (([] : List (List UInt8 × List UInt8)), ((0 : Int), (false, ((0 : Int), ((0 : Int), ((0 : Int), ((0 : Int), (false, (0 : Int)))))))))).2).1, (((f0.2.2.2.2.getD ((IntKind.i64.wrap (i637 - 1)).toNat) (([] : List (List UInt8 × List UInt8)), ((0 : Int), (false, ((0 : Int), ((0 : Int), ((0 : Int), ((0 : Int), (false, (0 : Int)))))))))).2).2).1, ((((f0.2.2.2.2.getD ((IntKind.i64.wrap (i637 - 1)).toNat) (([] : List (List UInt8 × List UInt8)), ((0 : Int), (false, ((0 : Int), ((0 : Int), ((0 : Int), ((0 : Int), (false, (0 : Int)))))))))).2).2).2).1, (((((f0.2.2.2.2.getD ((IntKind.i64.wrap (i637 - 1)).toNat) (([] : List (List UInt8 × List UInt8)), ((0 : Int), (false, ((0 : Int), ((0 : Int), ((0 : Int), ((0 : Int), (false, (0 : Int)))))))))).2).2).2).2).1, ((((((f0.2.2.2.2.getD ((IntKind.i64.wrap (i637 - 1)).toNat) (([] : List (List UInt8 × List UInt8)), ((0 : Int), (false, ((0 : Int), ((0 : Int), ((0 : Int), ((0 : Int), (false, (0 : Int)))))))))).2).2).2).2).2).1, (((((((f0.2.2.2.2.getD ((IntKind.i64.wrap (i637 - 1)).toNat) (([] : List (List UInt8 × List UInt8)), ((0 : Int), (false, ((0 : Int), ((0 : Int), ((0 : Int), ((0 : Int), (false, (0 : Int)))))))))).2).2).2).2).2).2).1, ((((((((f0.2.2.2.2.getD ((IntKind.i64.wrap (i637 - 1)).toNat) (([] : List (List UInt8 × List UInt8)), ((0 : Int), (false, ((0 : Int), ((0 : Int), ((0 : Int), ((0 : Int), (false, (0 : Int)))))))))).2).2).2).2).2).2).2).1, ((((((((f0.2.2.2.2.getD ((IntKind.i64.wrap (i637 - 1)).toNat) (([] : List (List UInt8 × List UInt8)), ((0 : Int), (false, ((0 : Int), ((0 : Int), ((0 : Int), ((0 : Int), (false, (0 : Int)))))))))).2).2).2).2).2).2).2).2) ((f0.2.2.2.2.getD i637.toNat (([] : List (List UInt8 × List UInt8)), ((0 : Int), (false, ((0 : Int), ((0 : Int), ((0 : Int), ((0 : Int), (false, (0 : Int)))))))))).1, ((f0.2.2.2.2.getD i637.toNat (([] : List (List UInt8 × List UInt8)), ((0 : Int), (false, ((0 : Int), ((0 : Int), ((0 : Int), ((0 : Int), (false, (0 : Int)))))))))).2).1, (((f0.2.2.2.2.getD i637.toNat (([] : List (List UInt8 × List UInt8)), ((0 : Int), (false, ((0 : Int), ((0 : Int), ((0 : Int), ((0 : Int), (false, (0 : Int)))))))))).2).2).1, ((((f0.2.2.2.2.getD i637.toNat (([] : List (List UInt8 × List UInt8)), ((0 : Int), (false, ((0 : Int), ((0 : Int), ((0 : Int), ((0 : Int), (false, (0 : Int)))))))))).2).2).2).1, (((((f0.2.2.2.2.getD i637.toNat (([] : List (List UInt8 × List UInt8)), ((0 : Int), (false, ((0 : Int), ((0 : Int), ((0 : Int), ((0 : Int), (false, (0 : Int)))))))))).2).2).2).2).1, ((((((f0.2.2.2.2.getD i637.toNat (([] : List (List UInt8 × List UInt8)), ((0 : Int), (false, ((0 : Int), ((0 : Int), ((0 : Int), ((0 : Int), (false, (0 : Int)))))))))).2).2).2).2).2).1, (((((((f0.2.2.2.2.getD i637.toNat (([] : List (List UInt8 × List UInt8)), ((0 : Int), (false, ((0 : Int), ((0 : Int), ((0 : Int), ((0 : Int), (false, (0 : Int)))))))))).2).2).2).2).2).2).1, ((((((((f0.2.2.2.2.getD i637.toNat (([] : List (List UInt8 × List UInt8)), ((0 : Int), (false, ((0 : Int), ((0 : Int), ((0 : Int), ((0 : Int), (false, (0 : Int)))))))))).2).2).2).2).2).2).2).1, ((((((((f0.2.2.2.2.getD i637.toNat (([] : List (List UInt8 × List UInt8)), ((0 : Int), (false, ((0 : Int), ((0 : Int), ((0 : Int), ((0 : Int), (false, (0 : Int)))))))))).2).2).2).2).2).2).2).2)).bind fun r639 =>
                bif decide (r639 ≥ 0) then
                  some (.inr (.inr false))
                else some (.inl (IntKind.i64.wrap (i637 + 1)))
              else none
            else none
          else some (.inl (IntKind.i64.wrap (i637 + 1)))
        else none
      else some (.inr (.inl ()))) 0 : Option (Unit ⊕ Bool))).bind fun e_ =>
  match e_ with
  | .inl _ =>
    some true
  | .inr t640 =>
    some t640
def polyglotref7_Family.sig : Sig := ⟨[(.agg (.pair .str (.pair (.int .i64) (.pair .str (.pair .str (.sl (.pair (.sl (.pair .str .str)) (.pair (.int .i64) (.pair .bool (.pair (.int .i64) (.pair (.int .i64) (.pair (.int .i64) (.pair (.int .i64) (.pair .bool (.int .i64)))))))))))))))], [(.c .bool)]⟩
noncomputable def polyglotref7_Family.con (K : Nat) : Con := (mkCon polyglotref7_Family.sig (fun x => polyglotref7_Family.f K x))
noncomputable def polyglotref7_Family.ht : HT := .seq .nil (.seq (.join ⟨3, [], [], ⟨[], []⟩, [(.normal, ⟨[(29, .c (.v .bool))], []⟩)]⟩ (.seq .nil .nil)) (.seq (.seq .nil (.block (.loop ⟨2, [], [], ⟨[(3, .c (.v (.int .i64)))], []⟩, [(.exit 0, ⟨[], []⟩), (.ret, ⟨[(2, .c (.v .bool))], []⟩)]⟩ .nil))) .nil))
noncomputable def polyglotref7_Family.cx (K : Nat) : Cx := ⟨tt, [(48, polyglotref7_Name.con K), (49, polyglotref7_IsKind.con K), (24, polyglotref7_Value.con K), (50, polyglotref7_Point.con K), (51, polyglotref7_ComparePoints.con K)], [], K, inlOf tt [(48, polyglotref7_Name.con K), (49, polyglotref7_IsKind.con K), (24, polyglotref7_Value.con K), (50, polyglotref7_Point.con K), (51, polyglotref7_ComparePoints.con K)] [] K (getBody []) 0⟩
theorem polyglotref7_Family.eq (K : Nat) (x : PL polyglotref7_Family.sig.ps) : evalF (polyglotref7_Family.cx K) polyglotref7_Family.sig (bodyOf Tryz.f27) polyglotref7_Family.ht x = polyglotref7_Family.f K x := by kernel_rfl
theorem polyglotref7_Family.fok (K : Nat) : FOK Tryz.prog polyglotref7_Family.sig (fun x => polyglotref7_Family.f K x) 27 := fok_of_eval (tt := tt) (cons := [(48, polyglotref7_Name.con K), (49, polyglotref7_IsKind.con K), (24, polyglotref7_Value.con K), (50, polyglotref7_Point.con K), (51, polyglotref7_ComparePoints.con K)]) (exts := []) (bodies := (getBody [])) (K := K) (d := 0) ⟨ttok, (getCon_cons (polyglotref7_Name.ok K) (getCon_cons (polyglotref7_IsKind.ok K) (getCon_cons (polyglotref7_Value.ok K) (getCon_cons (polyglotref7_Point.ok K) (getCon_cons (polyglotref7_ComparePoints.ok K) (fun _ _ => getCon_nil)))))), (fun _ _ => getExt_nil), (fun _ _ => getBody_nil)⟩ draw bok27 (polyglotref7_Family.eq K)
theorem polyglotref7_Family.ok (K : Nat) : ConOK Tryz.prog 27 (polyglotref7_Family.con K) := con_ok bok27 (polyglotref7_Family.fok K)

noncomputable def polyglotref7_Points.f (K : Nat) (l0 : List (List UInt8 × Int × List UInt8 × List UInt8 × List (List (List UInt8 × List UInt8) × Int × Bool × Int × Int × Int × Int × Bool × Int))) : Option Int :=
  ((loopN K (fun (s_ : Int × Int) =>
    match s_ with
    | (n643, i644) =>
      bif decide (i644 < (l0.length : Int)) then
        bif idx i644 l0.length then
          some (.inl (IntKind.i64.wrap (n643 + ((((((l0.getD i644.toNat (([] : List UInt8), ((0 : Int), (([] : List UInt8), (([] : List UInt8), ([] : List (List (List UInt8 × List UInt8) × Int × Bool × Int × Int × Int × Int × Bool × Int))))))).2).2).2).2).length : Int)), IntKind.i64.wrap (i644 + 1)))
        else none
      else some (.inr n643)) (0, 0) : Option Int)).bind fun n645 =>
  some n645
def polyglotref7_Points.sig : Sig := ⟨[(.c (.sl (.pair .str (.pair (.int .i64) (.pair .str (.pair .str (.sl (.pair (.sl (.pair .str .str)) (.pair (.int .i64) (.pair .bool (.pair (.int .i64) (.pair (.int .i64) (.pair (.int .i64) (.pair (.int .i64) (.pair .bool (.int .i64))))))))))))))))], [(.c (.int .i64))]⟩
noncomputable def polyglotref7_Points.con (K : Nat) : Con := (mkCon polyglotref7_Points.sig (fun x => polyglotref7_Points.f K x))
noncomputable def polyglotref7_Points.ht : HT := .seq .nil (.seq .nil (.seq (.seq .nil (.block (.loop ⟨3, [], [], ⟨[(3, .c (.v (.int .i64))), (4, .c (.v (.int .i64)))], []⟩, [(.exit 0, ⟨[(3, .c (.v (.int .i64)))], []⟩)]⟩ .nil))) .nil))
noncomputable def polyglotref7_Points.cx (K : Nat) : Cx := ⟨tt, [], [], K, inlOf tt [] [] K (getBody []) 0⟩
theorem polyglotref7_Points.eq (K : Nat) (x : PL polyglotref7_Points.sig.ps) : evalF (polyglotref7_Points.cx K) polyglotref7_Points.sig (bodyOf Tryz.f28) polyglotref7_Points.ht x = polyglotref7_Points.f K x := by kernel_rfl
theorem polyglotref7_Points.fok (K : Nat) : FOK Tryz.prog polyglotref7_Points.sig (fun x => polyglotref7_Points.f K x) 28 := fok_of_eval (tt := tt) (cons := []) (exts := []) (bodies := (getBody [])) (K := K) (d := 0) ⟨ttok, (fun _ _ => getCon_nil), (fun _ _ => getExt_nil), (fun _ _ => getBody_nil)⟩ draw bok28 (polyglotref7_Points.eq K)
theorem polyglotref7_Points.ok (K : Nat) : ConOK Tryz.prog 28 (polyglotref7_Points.con K) := con_ok bok28 (polyglotref7_Points.fok K)

noncomputable def polyglotref7_Check.f (K : Nat) (b0 : List UInt8 × List (List UInt8 × Int × List UInt8 × List UInt8 × List (List (List UInt8 × List UInt8) × Int × Bool × Int × Int × Int × Int × Bool × Int))) : Option Int :=
  (polyglotref7_Tenant.f K b0.1).bind fun r646 =>
  bif !r646 then some 19
  else
  ((loopN K (fun (s_ : Int) =>
    match s_ with
    | i651 =>
      bif decide (i651 < (b0.2.length : Int)) then
        bif idx i651 b0.2.length then
          (polyglotref7_Family.f K ((b0.2.getD i651.toNat (([] : List UInt8), ((0 : Int), (([] : List UInt8), (([] : List UInt8), ([] : List (List (List UInt8 × List UInt8) × Int × Bool × Int × Int × Int × Int × Bool × Int))))))).1, ((b0.2.getD i651.toNat (([] : List UInt8), ((0 : Int), (([] : List UInt8), (([] : List UInt8), ([] : List (List (List UInt8 × List UInt8) × Int × Bool × Int × Int × Int × Int × Bool × Int))))))).2).1, (((b0.2.getD i651.toNat (([] : List UInt8), ((0 : Int), (([] : List UInt8), (([] : List UInt8), ([] : List (List (List UInt8 × List UInt8) × Int × Bool × Int × Int × Int × Int × Bool × Int))))))).2).2).1, ((((b0.2.getD i651.toNat (([] : List UInt8), ((0 : Int), (([] : List UInt8), (([] : List UInt8), ([] : List (List (List UInt8 × List UInt8) × Int × Bool × Int × Int × Int × Int × Bool × Int))))))).2).2).2).1, ((((b0.2.getD i651.toNat (([] : List UInt8), ((0 : Int), (([] : List UInt8), (([] : List UInt8), ([] : List (List (List UInt8 × List UInt8) × Int × Bool × Int × Int × Int × Int × Bool × Int))))))).2).2).2).2)).bind fun r652 =>
          bif !r652 then some (.inr (.inr 19))
          else
          bif decide (i651 > 0) then
            bif idx (IntKind.i64.wrap (i651 - 1)) b0.2.length then
              bif idx i651 b0.2.length then
                bif !(Op.bytesLess ((b0.2.getD ((IntKind.i64.wrap (i651 - 1)).toNat) (([] : List UInt8), ((0 : Int), (([] : List UInt8), (([] : List UInt8), ([] : List (List (List UInt8 × List UInt8) × Int × Bool × Int × Int × Int × Int × Bool × Int))))))).1) ((b0.2.getD i651.toNat (([] : List UInt8), ((0 : Int), (([] : List UInt8), (([] : List UInt8), ([] : List (List (List UInt8 × List UInt8) × Int × Bool × Int × Int × Int × Int × Bool × Int))))))).1)) then
                  some (.inr (.inr 19))
                else some (.inl (IntKind.i64.wrap (i651 + 1)))
              else none
            else none
          else some (.inl (IntKind.i64.wrap (i651 + 1)))
        else none
      else some (.inr (.inl ()))) 0 : Option (Unit ⊕ Int))).bind fun e_ =>
  match e_ with
  | .inl _ =>
    bif decide ((b0.2.length : Int) > 30) then some 14
    else
    (polyglotref7_Points.f K b0.2).bind fun r653 =>
    bif decide (r653 > 120) then
      some 14
    else some 0
  | .inr t654 =>
    some t654
def polyglotref7_Check.sig : Sig := ⟨[(.agg (.pair .str (.sl (.pair .str (.pair (.int .i64) (.pair .str (.pair .str (.sl (.pair (.sl (.pair .str .str)) (.pair (.int .i64) (.pair .bool (.pair (.int .i64) (.pair (.int .i64) (.pair (.int .i64) (.pair (.int .i64) (.pair .bool (.int .i64)))))))))))))))))], [(.c (.int .i64))]⟩
noncomputable def polyglotref7_Check.con (K : Nat) : Con := (mkCon polyglotref7_Check.sig (fun x => polyglotref7_Check.f K x))
noncomputable def polyglotref7_Check.ht : HT := .seq .nil (.seq .nil (.seq (.seq .nil (.block (.loop ⟨2, [], [], ⟨[(3, .c (.v (.int .i64)))], []⟩, [(.exit 0, ⟨[], []⟩), (.ret, ⟨[(2, .c (.v (.int .i64)))], []⟩)]⟩ .nil))) .nil))
noncomputable def polyglotref7_Check.cx (K : Nat) : Cx := ⟨tt, [(26, polyglotref7_Tenant.con K), (27, polyglotref7_Family.con K), (28, polyglotref7_Points.con K)], [], K, inlOf tt [(26, polyglotref7_Tenant.con K), (27, polyglotref7_Family.con K), (28, polyglotref7_Points.con K)] [] K (getBody []) 0⟩
theorem polyglotref7_Check.eq (K : Nat) (x : PL polyglotref7_Check.sig.ps) : evalF (polyglotref7_Check.cx K) polyglotref7_Check.sig (bodyOf Tryz.f15) polyglotref7_Check.ht x = polyglotref7_Check.f K x := by kernel_rfl
theorem polyglotref7_Check.fok (K : Nat) : FOK Tryz.prog polyglotref7_Check.sig (fun x => polyglotref7_Check.f K x) 15 := fok_of_eval (tt := tt) (cons := [(26, polyglotref7_Tenant.con K), (27, polyglotref7_Family.con K), (28, polyglotref7_Points.con K)]) (exts := []) (bodies := (getBody [])) (K := K) (d := 0) ⟨ttok, (getCon_cons (polyglotref7_Tenant.ok K) (getCon_cons (polyglotref7_Family.ok K) (getCon_cons (polyglotref7_Points.ok K) (fun _ _ => getCon_nil)))), (fun _ _ => getExt_nil), (fun _ _ => getBody_nil)⟩ draw bok15 (polyglotref7_Check.eq K)
theorem polyglotref7_Check.ok (K : Nat) : ConOK Tryz.prog 15 (polyglotref7_Check.con K) := con_ok bok15 (polyglotref7_Check.fok K)

noncomputable def polyglotref12_IsProto.f (K : Nat) (proto0 : Int) : Option Bool :=
  bif decide (proto0 ≥ 1) then
    some (decide (proto0 ≤ 4))
  else some false
def polyglotref12_IsProto.sig : Sig := ⟨[(.c (.int .i64))], [(.c .bool)]⟩
noncomputable def polyglotref12_IsProto.con (K : Nat) : Con := (mkCon polyglotref12_IsProto.sig (fun x => polyglotref12_IsProto.f K x))
noncomputable def polyglotref12_IsProto.ht : HT := .nil
noncomputable def polyglotref12_IsProto.cx (K : Nat) : Cx := ⟨tt, [], [], K, inlOf tt [] [] K (getBody []) 0⟩
theorem polyglotref12_IsProto.eq (K : Nat) (x : PL polyglotref12_IsProto.sig.ps) : evalF (polyglotref12_IsProto.cx K) polyglotref12_IsProto.sig (bodyOf Tryz.f19) polyglotref12_IsProto.ht x = polyglotref12_IsProto.f K x := by kernel_rfl
theorem polyglotref12_IsProto.fok (K : Nat) : FOK Tryz.prog polyglotref12_IsProto.sig (fun x => polyglotref12_IsProto.f K x) 19 := fok_of_eval (tt := tt) (cons := []) (exts := []) (bodies := (getBody [])) (K := K) (d := 0) ⟨ttok, (fun _ _ => getCon_nil), (fun _ _ => getExt_nil), (fun _ _ => getBody_nil)⟩ draw bok19 (polyglotref12_IsProto.eq K)
theorem polyglotref12_IsProto.ok (K : Nat) : ConOK Tryz.prog 19 (polyglotref12_IsProto.con K) := con_ok bok19 (polyglotref12_IsProto.fok K)

noncomputable def polyglotref12_Kinds.f (K : Nat) (proto0 : Int) : Option (List Int) :=
  bif proto0 == 1 then some ([0, 1, 2, 3, 4] : List Int)
  else
  bif proto0 == 2 then some ([0, 1, 2] : List Int)
  else
  bif proto0 == 3 then some ([0] : List Int)
  else
  bif proto0 == 4 then
    some ([1, 2] : List Int)
  else some ([] : List Int)
def polyglotref12_Kinds.sig : Sig := ⟨[(.c (.int .i64))], [(.c (.sl (.int .i64)))]⟩
noncomputable def polyglotref12_Kinds.con (K : Nat) : Con := (mkCon polyglotref12_Kinds.sig (fun x => polyglotref12_Kinds.f K x))
noncomputable def polyglotref12_Kinds.ht : HT := .nil
noncomputable def polyglotref12_Kinds.cx (K : Nat) : Cx := ⟨tt, [], [], K, inlOf tt [] [] K (getBody []) 0⟩
theorem polyglotref12_Kinds.eq (K : Nat) (x : PL polyglotref12_Kinds.sig.ps) : evalF (polyglotref12_Kinds.cx K) polyglotref12_Kinds.sig (bodyOf Tryz.f10) polyglotref12_Kinds.ht x = polyglotref12_Kinds.f K x := by kernel_rfl
theorem polyglotref12_Kinds.fok (K : Nat) : FOK Tryz.prog polyglotref12_Kinds.sig (fun x => polyglotref12_Kinds.f K x) 10 := fok_of_eval (tt := tt) (cons := []) (exts := []) (bodies := (getBody [])) (K := K) (d := 0) ⟨ttok, (fun _ _ => getCon_nil), (fun _ _ => getExt_nil), (fun _ _ => getBody_nil)⟩ draw bok10 (polyglotref12_Kinds.eq K)
theorem polyglotref12_Kinds.ok (K : Nat) : ConOK Tryz.prog 10 (polyglotref12_Kinds.con K) := con_ok bok10 (polyglotref12_Kinds.fok K)

noncomputable def polyglotref12_letter.f (K : Nat) (c0 : Int) : Option Bool :=
  bif decide (c0 ≥ 97) then
    bif decide (c0 ≤ 122) then some true
    else
    bif decide (c0 ≥ 65) then
      some (decide (c0 ≤ 90))
    else some false
  else
  bif decide (c0 ≥ 65) then
    some (decide (c0 ≤ 90))
  else some false
def polyglotref12_letter.sig : Sig := ⟨[(.c (.int .u8))], [(.c .bool)]⟩
noncomputable def polyglotref12_letter.con (K : Nat) : Con := (mkCon polyglotref12_letter.sig (fun x => polyglotref12_letter.f K x))
noncomputable def polyglotref12_letter.ht : HT := .nil
noncomputable def polyglotref12_letter.cx (K : Nat) : Cx := ⟨tt, [], [], K, inlOf tt [] [] K (getBody []) 0⟩
theorem polyglotref12_letter.eq (K : Nat) (x : PL polyglotref12_letter.sig.ps) : evalF (polyglotref12_letter.cx K) polyglotref12_letter.sig (bodyOf Tryz.f65) polyglotref12_letter.ht x = polyglotref12_letter.f K x := by kernel_rfl
theorem polyglotref12_letter.fok (K : Nat) : FOK Tryz.prog polyglotref12_letter.sig (fun x => polyglotref12_letter.f K x) 65 := fok_of_eval (tt := tt) (cons := []) (exts := []) (bodies := (getBody [])) (K := K) (d := 0) ⟨ttok, (fun _ _ => getCon_nil), (fun _ _ => getExt_nil), (fun _ _ => getBody_nil)⟩ draw bok65 (polyglotref12_letter.eq K)
theorem polyglotref12_letter.ok (K : Nat) : ConOK Tryz.prog 65 (polyglotref12_letter.con K) := con_ok bok65 (polyglotref12_letter.fok K)

noncomputable def polyglotref12_digit.f (K : Nat) (c0 : Int) : Option Bool :=
  bif decide (c0 ≥ 48) then
    some (decide (c0 ≤ 57))
  else some false
def polyglotref12_digit.sig : Sig := ⟨[(.c (.int .u8))], [(.c .bool)]⟩
noncomputable def polyglotref12_digit.con (K : Nat) : Con := (mkCon polyglotref12_digit.sig (fun x => polyglotref12_digit.f K x))
noncomputable def polyglotref12_digit.ht : HT := .nil
noncomputable def polyglotref12_digit.cx (K : Nat) : Cx := ⟨tt, [], [], K, inlOf tt [] [] K (getBody []) 0⟩
theorem polyglotref12_digit.eq (K : Nat) (x : PL polyglotref12_digit.sig.ps) : evalF (polyglotref12_digit.cx K) polyglotref12_digit.sig (bodyOf Tryz.f66) polyglotref12_digit.ht x = polyglotref12_digit.f K x := by kernel_rfl
theorem polyglotref12_digit.fok (K : Nat) : FOK Tryz.prog polyglotref12_digit.sig (fun x => polyglotref12_digit.f K x) 66 := fok_of_eval (tt := tt) (cons := []) (exts := []) (bodies := (getBody [])) (K := K) (d := 0) ⟨ttok, (fun _ _ => getCon_nil), (fun _ _ => getExt_nil), (fun _ _ => getBody_nil)⟩ draw bok66 (polyglotref12_digit.eq K)
theorem polyglotref12_digit.ok (K : Nat) : ConOK Tryz.prog 66 (polyglotref12_digit.con K) := con_ok bok66 (polyglotref12_digit.fok K)

end Go.Proofs.YtclmdnfkdpdacaaGreat
