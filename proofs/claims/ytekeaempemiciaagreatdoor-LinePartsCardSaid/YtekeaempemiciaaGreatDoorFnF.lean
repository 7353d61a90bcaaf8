/- What each function of the program comes to, and that it does, part 6. -/
import Derived.Test.YtekeaempemiciaaGreatDoorFnE
import Derived.KernelRfl
set_option linter.unusedVariables false
namespace Go.Proofs.YtekeaempemiciaaGreatDoor
open Go Go.Rf Go.Proofs Go.RowKit

noncomputable def polyglotref12_Why.f (K : Nat) (proto0 : Int) (b1 : List UInt8 × List (List UInt8 × Int × List UInt8 × List UInt8 × List (List (List UInt8 × List UInt8) × Int × Bool × Int × Int × Int × Int × Bool × Int))) : Option (List UInt8 × Bool) :=
  (((
      (polyglotref7_Check.f K b1).bind fun r1055 =>
      bif r1055 != 0 then some true
      else
      (polyglotref12_IsProto.f K proto0).bind fun r1056 =>
      some (!r1056)) : Option Bool)).bind fun t1057 =>
  bif t1057 then some (([] : List UInt8), false)
  else
  ((loopN K (fun (s_ : Int) =>
    match s_ with
    | i1062 =>
      bif decide (i1062 < (b1.2.length : Int)) then
        bif idx i1062 b1.2.length then
          (polyglotref12_family.f K proto0 ((b1.2.getD i1062.toNat (([] : List UInt8), ((0 : Int), (([] : List UInt8), (([] : List UInt8), ([] : List (List (List UInt8 × List UInt8) × Int × Bool × Int × Int × Int × Int × Bool × Int))))))).1, ((b1.2.getD i1062.toNat (([] : List UInt8), ((0 : Int), (([] : List UInt8), (([] : List UInt8), ([] : List (List (List UInt8 × List UInt8) × Int × Bool × Int × Int × Int × Int × Bool × Int))))))).2).1, (((b1.2.getD i1062.toNat (([] : List UInt8), ((0 : Int), (([] : List UInt8), (([] : List UInt8), ([] : List (List (List UInt8 × List UInt8) × Int × Bool × Int × Int × Int × Int × Bool × Int))))))).2).2).1, ((((b1.2.getD i1062.toNat (([] : List UInt8), ((0 : Int), (([] : List UInt8), (([] : List UInt8), ([] : List (List (List UInt8 × List UInt8) × Int × Bool × Int × Int × Int × Int × Bool × Int))))))).2).2).2).1, ((((b1.2.getD i1062.toNat (([] : List UInt8), ((0 : Int), (([] : List UInt8), (([] : List UInt8), ([] : List (List (List UInt8 × List UInt8) × Int × Bool × Int × Int × Int × Int × Bool × Int))))))).2).2).2).2)).bind fun r1063 =>
          bif !r1063 then
            bif idx i1062 b1.2.length then
              some (.inr (.inr ((b1.2.getD i1062.toNat (([] : List UInt8), ((0 : Int), (([] : List UInt8), (([] : List UInt8), ([] : List (List (List UInt8 × List UInt8) × Int × Bool × Int × Int × Int × Int × Bool × Int))))))).1, false)))
            else none
          else some (.inl (IntKind.i64.wrap (i1062 + 1)))
        else none
      else some (.inr (.inl ()))) 0 : Option (Unit ⊕ (List UInt8 × Bool)))).bind fun e_ =>
  match e_ with
  | .inl _ =>
    some (([] : List UInt8), true)
  | .inr (t1064, t1065) =>
    some (t1064, t1065)
def polyglotref12_Why.sig : Sig := ⟨[(.c (.int .i64)), (.agg (.pair .str (.sl (.pair .str (.pair (.int .i64) (.pair .str (.pair .str (.sl (.pair (.sl (.pair .str .str)) (.pair (.int .i64) (.pair .bool (.pair (.int .i64) (.pair (.int .i64) (.pair (.int .i64) (.pair (.int .i64) (.pair .bool (.int .i64)))))))))))))))))], [(.c .str), (.c .bool)]⟩
noncomputable def polyglotref12_Why.con (K : Nat) : Con := (mkCon polyglotref12_Why.sig (fun x => polyglotref12_Why.f K x.1 x.2))
noncomputable def polyglotref12_Why.ht : HT := .seq .nil (.seq (.join ⟨6, [], [], ⟨[], []⟩, [(.normal, ⟨[(14, .c (.v .bool))], []⟩)]⟩ (.seq .nil .nil)) (.seq (.seq .nil (.block (.loop ⟨4, [], [], ⟨[(6, .c (.v (.int .i64)))], []⟩, [(.exit 0, ⟨[], []⟩), (.ret, ⟨[(4, .c (.v .str)), (5, .c (.v .bool))], []⟩)]⟩ .nil))) .nil))
noncomputable def polyglotref12_Why.cx (K : Nat) : Cx := ⟨tt, [(47, polyglotref7_Check.con K), (48, polyglotref12_IsProto.con K), (49, polyglotref12_family.con K)], [], K, inlOf tt [(47, polyglotref7_Check.con K), (48, polyglotref12_IsProto.con K), (49, polyglotref12_family.con K)] [] K (getBody []) 0⟩
theorem polyglotref12_Why.eq (K : Nat) (x : PL polyglotref12_Why.sig.ps) : evalF (polyglotref12_Why.cx K) polyglotref12_Why.sig (bodyOf Tryz.f32) polyglotref12_Why.ht x = polyglotref12_Why.f K x.1 x.2 := by kernel_rfl
theorem polyglotref12_Why.fok (K : Nat) : FOK Tryz.prog polyglotref12_Why.sig (fun x => polyglotref12_Why.f K x.1 x.2) 32 := fok_of_eval (tt := tt) (cons := [(47, polyglotref7_Check.con K), (48, polyglotref12_IsProto.con K), (49, polyglotref12_family.con K)]) (exts := []) (bodies := (getBody [])) (K := K) (d := 0) ⟨ttok, (getCon_cons (polyglotref7_Check.ok K) (getCon_cons (polyglotref12_IsProto.ok K) (getCon_cons (polyglotref12_family.ok K) (fun _ _ => getCon_nil)))), (fun _ _ => getExt_nil), (fun _ _ => getBody_nil)⟩ draw bok32 (polyglotref12_Why.eq K)
theorem polyglotref12_Why.ok (K : Nat) : ConOK Tryz.prog 32 (polyglotref12_Why.con K) := con_ok bok32 (polyglotref12_Why.fok K)

noncomputable def polyglotref12_Class.f (K : Nat) (proto0 : Int) (b1 : List UInt8 × List (List UInt8 × Int × List UInt8 × List UInt8 × List (List (List UInt8 × List UInt8) × Int × Bool × Int × Int × Int × Int × Bool × Int))) : Option Bool :=
  (polyglotref12_Why.f K proto0 b1).bind fun (r1066, r1067) =>
  some r1067
def polyglotref12_Class.sig : Sig := ⟨[(.c (.int .i64)), (.agg (.pair .str (.sl (.pair .str (.pair (.int .i64) (.pair .str (.pair .str (.sl (.pair (.sl (.pair .str .str)) (.pair (.int .i64) (.pair .bool (.pair (.int .i64) (.pair (.int .i64) (.pair (.int .i64) (.pair (.int .i64) (.pair .bool (.int .i64)))))))))))))))))], [(.c .bool)]⟩
noncomputable def polyglotref12_Class.con (K : Nat) : Con := (mkCon polyglotref12_Class.sig (fun x => polyglotref12_Class.f K x.1 x.2))
noncomputable def polyglotref12_Class.ht : HT := .nil
noncomputable def polyglotref12_Class.cx (K : Nat) : Cx := ⟨tt, [(32, polyglotref12_Why.con K)], [], K, inlOf tt [(32, polyglotref12_Why.con K)] [] K (getBody []) 0⟩
theorem polyglotref12_Class.eq (K : Nat) (x : PL polyglotref12_Class.sig.ps) : evalF (polyglotref12_Class.cx K) polyglotref12_Class.sig (bodyOf Tryz.f18) polyglotref12_Class.ht x = polyglotref12_Class.f K x.1 x.2 := by kernel_rfl
theorem polyglotref12_Class.fok (K : Nat) : FOK Tryz.prog polyglotref12_Class.sig (fun x => polyglotref12_Class.f K x.1 x.2) 18 := fok_of_eval (tt := tt) (cons := [(32, polyglotref12_Why.con K)]) (exts := []) (bodies := (getBody [])) (K := K) (d := 0) ⟨ttok, (getCon_cons (polyglotref12_Why.ok K) (fun _ _ => getCon_nil)), (fun _ _ => getExt_nil), (fun _ _ => getBody_nil)⟩ draw bok18 (polyglotref12_Class.eq K)
theorem polyglotref12_Class.ok (K : Nat) : ConOK Tryz.prog 18 (polyglotref12_Class.con K) := con_ok bok18 (polyglotref12_Class.fok K)

noncomputable def polyglotref20_has.f (K : Nat) (s0 : List UInt8) (c1 : Int) : Option Bool :=
  ((loopN K (fun (s_ : Int) =>
    match s_ with
    | i1070 =>
      bif decide (i1070 < (s0.length : Int)) then
        bif idx i1070 s0.length then
          bif ((s0.getD i1070.toNat 0).toNat : Int) == c1 then
            some (.inr (.inr true))
          else some (.inl (IntKind.i64.wrap (i1070 + 1)))
        else none
      else some (.inr (.inl ()))) 0 : Option (Unit ⊕ Bool))).bind fun e_ =>
  match e_ with
  | .inl _ =>
    some false
  | .inr t1071 =>
    some t1071
def polyglotref20_has.sig : Sig := ⟨[(.c .str), (.c (.int .u8))], [(.c .bool)]⟩
noncomputable def polyglotref20_has.con (K : Nat) : Con := (mkCon polyglotref20_has.sig (fun x => polyglotref20_has.f K x.1 x.2))
noncomputable def polyglotref20_has.ht : HT := .seq .nil (.seq (.seq .nil (.block (.loop ⟨2, [], [], ⟨[(5, .c (.v (.int .i64)))], []⟩, [(.exit 0, ⟨[], []⟩), (.ret, ⟨[(4, .c (.v .bool))], []⟩)]⟩ .nil))) .nil)
noncomputable def polyglotref20_has.cx (K : Nat) : Cx := ⟨tt, [], [], K, inlOf tt [] [] K (getBody []) 0⟩
theorem polyglotref20_has.eq (K : Nat) (x : PL polyglotref20_has.sig.ps) : evalF (polyglotref20_has.cx K) polyglotref20_has.sig (bodyOf Tryz.f33) polyglotref20_has.ht x = polyglotref20_has.f K x.1 x.2 := by kernel_rfl
theorem polyglotref20_has.fok (K : Nat) : FOK Tryz.prog polyglotref20_has.sig (fun x => polyglotref20_has.f K x.1 x.2) 33 := fok_of_eval (tt := tt) (cons := []) (exts := []) (bodies := (getBody [])) (K := K) (d := 0) ⟨ttok, (fun _ _ => getCon_nil), (fun _ _ => getExt_nil), (fun _ _ => getBody_nil)⟩ draw bok33 (polyglotref20_has.eq K)
theorem polyglotref20_has.ok (K : Nat) : ConOK Tryz.prog 33 (polyglotref20_has.con K) := con_ok bok33 (polyglotref20_has.fok K)

noncomputable def polyglotref20_Quote.f (K : Nat) (v0 : List UInt8) (marks1 : List UInt8) : Option (List UInt8) :=
  ((loopN K (fun (s_ : List UInt8 × Int) =>
    match s_ with
    | (out1075, i1076) =>
      bif decide (i1076 < (v0.length : Int)) then
        bif idx i1076 v0.length then
          (polyglotref20_has.f K marks1 ((v0.getD i1076.toNat 0).toNat : Int)).bind fun r1077 =>
          bif r1077 then
            bif decide (out1075.length + ([92] : List UInt8).length ≤ LIM) then
              bif (decide (0 ≤ i1076)) && (decide (i1076 ≤ (IntKind.i64.wrap (i1076 + 1)))) && (decide ((IntKind.i64.wrap (i1076 + 1)) ≤ (v0.length : Int))) then
                bif decide ((out1075 ++ ([92] : List UInt8)).length + ((v0.take ((IntKind.i64.wrap (i1076 + 1)).toNat)).drop i1076.toNat).length ≤ LIM) then
                  some (.inl ((out1075 ++ ([92] : List UInt8)) ++ ((v0.take ((IntKind.i64.wrap (i1076 + 1)).toNat)).drop i1076.toNat), IntKind.i64.wrap (i1076 + 1)))
                else none
              else none
            else none
          else
          bif (decide (0 ≤ i1076)) && (decide (i1076 ≤ (IntKind.i64.wrap (i1076 + 1)))) && (decide ((IntKind.i64.wrap (i1076 + 1)) ≤ (v0.length : Int))) then
            bif decide (out1075.length + ((v0.take ((IntKind.i64.wrap (i1076 + 1)).toNat)).drop i1076.toNat).length ≤ LIM) then
              some (.inl (out1075 ++ ((v0.take ((IntKind.i64.wrap (i1076 + 1)).toNat)).drop i1076.toNat), IntKind.i64.wrap (i1076 + 1)))
            else none
          else none
        else none
      else some (.inr out1075)) (([] : List UInt8), 0) : Option (List UInt8))).bind fun out1078 =>
  some out1078
def polyglotref20_Quote.sig : Sig := ⟨[(.c .str), (.c .str)], [(.c .str)]⟩
noncomputable def polyglotref20_Quote.con (K : Nat) : Con := (mkCon polyglotref20_Quote.sig (fun x => polyglotref20_Quote.f K x.1 x.2))
noncomputable def polyglotref20_Quote.ht : HT := .seq .nil (.seq .nil (.seq (.seq .nil (.block (.loop ⟨5, [], [], ⟨[(5, .c (.v .str)), (6, .c (.v (.int .i64)))], []⟩, [(.exit 0, ⟨[(5, .c (.v .str))], []⟩)]⟩ .nil))) .nil))
noncomputable def polyglotref20_Quote.cx (K : Nat) : Cx := ⟨tt, [(33, polyglotref20_has.con K)], [], K, inlOf tt [(33, polyglotref20_has.con K)] [] K (getBody []) 0⟩
theorem polyglotref20_Quote.eq (K : Nat) (x : PL polyglotref20_Quote.sig.ps) : evalF (polyglotref20_Quote.cx K) polyglotref20_Quote.sig (bodyOf Tryz.f19) polyglotref20_Quote.ht x = polyglotref20_Quote.f K x.1 x.2 := by kernel_rfl
theorem polyglotref20_Quote.fok (K : Nat) : FOK Tryz.prog polyglotref20_Quote.sig (fun x => polyglotref20_Quote.f K x.1 x.2) 19 := fok_of_eval (tt := tt) (cons := [(33, polyglotref20_has.con K)]) (exts := []) (bodies := (getBody [])) (K := K) (d := 0) ⟨ttok, (getCon_cons (polyglotref20_has.ok K) (fun _ _ => getCon_nil)), (fun _ _ => getExt_nil), (fun _ _ => getBody_nil)⟩ draw bok19 (polyglotref20_Quote.eq K)
theorem polyglotref20_Quote.ok (K : Nat) : ConOK Tryz.prog 19 (polyglotref20_Quote.con K) := con_ok bok19 (polyglotref20_Quote.fok K)

noncomputable def polyglotref1_Print.f (K : Nat) (d0 : Int × Int) : Option (List UInt8) :=
  (polyglotref1_Good.f K d0).bind fun r1079 =>
  bif !r1079 then some ([] : List UInt8)
  else
  (polyglotref1_amount.f K d0.1).bind fun r1080 =>
  ((loopN K (fun (s_ : List Int) =>
    match s_ with
    | a1082 =>
      bif decide ((a1082.length : Int) ≤ d0.2) then
        bif decide ((1 + a1082.length) * 1 ≤ LIM) then
          some (.inl (([0] : List Int) ++ a1082))
        else none
      else some (.inr a1082)) r1080 : Option (List Int))).bind fun a1083 =>
  (((
      bif decide (d0.1 < 0) then
        some ([45] : List UInt8)
      else some ([] : List UInt8)) : Option (List UInt8))).bind fun out1084 =>
  ((loopN K (fun (s_ : List UInt8 × Int) =>
    match s_ with
    | (out1087, i1088) =>
      bif decide (i1088 < (a1083.length : Int)) then
        bif i1088 == (IntKind.i64.wrap ((a1083.length : Int) - d0.2)) then
          bif decide (out1087.length + ([46] : List UInt8).length ≤ LIM) then
            bif idx i1088 a1083.length then
              bif decide ((out1087 ++ ([46] : List UInt8)).length + (bytesOf ([IntKind.u8.wrap (48 + (a1083.getD i1088.toNat (0 : Int)))] : List Int)).length ≤ LIM) then
                some (.inl ((out1087 ++ ([46] : List UInt8)) ++ (bytesOf ([IntKind.u8.wrap (48 + (a1083.getD i1088.toNat (0 : Int)))] : List Int)), IntKind.i64.wrap (i1088 + 1)))
              else none
            else none
          else none
        else
        bif idx i1088 a1083.length then
          bif decide (out1087.length + (bytesOf ([IntKind.u8.wrap (48 + (a1083.getD i1088.toNat (0 : Int)))] : List Int)).length ≤ LIM) then
            some (.inl (out1087 ++ (bytesOf ([IntKind.u8.wrap (48 + (a1083.getD i1088.toNat (0 : Int)))] : List Int)), IntKind.i64.wrap (i1088 + 1)))
          else none
        else none
      else some (.inr out1087)) (out1084, 0) : Option (List UInt8))).bind fun out1089 =>
  some out1089
def polyglotref1_Print.sig : Sig := ⟨[(.agg (.pair (.int .i64) (.int .i64)))], [(.c .str)]⟩
noncomputable def polyglotref1_Print.con (K : Nat) : Con := (mkCon polyglotref1_Print.sig (fun x => polyglotref1_Print.f K x))
noncomputable def polyglotref1_Print.ht : HT := .seq .nil (.seq .nil (.seq .nil (.seq (.block (.loop ⟨3, [], [], ⟨[(3, .c (.v (.sl (.int .u8))))], []⟩, [(.exit 0, ⟨[(3, .c (.v (.sl (.int .u8))))], []⟩)]⟩ .nil)) (.seq .nil (.join ⟨4, [], [], ⟨[], []⟩, [(.normal, ⟨[(4, .c (.v .str))], []⟩)]⟩ (.seq .nil (.seq (.seq .nil (.block (.loop ⟨4, [], [], ⟨[(4, .c (.v .str)), (5, .c (.v (.int .i64)))], []⟩, [(.exit 2, ⟨[(4, .c (.v .str))], []⟩)]⟩ .nil))) .nil)))))))
noncomputable def polyglotref1_Print.cx (K : Nat) : Cx := ⟨tt, [(34, polyglotref1_Good.con K), (35, polyglotref1_amount.con K)], [], K, inlOf tt [(34, polyglotref1_Good.con K), (35, polyglotref1_amount.con K)] [] K (getBody []) 0⟩
theorem polyglotref1_Print.eq (K : Nat) (x : PL polyglotref1_Print.sig.ps) : evalF (polyglotref1_Print.cx K) polyglotref1_Print.sig (bodyOf Tryz.f20) polyglotref1_Print.ht x = polyglotref1_Print.f K x := by kernel_rfl
theorem polyglotref1_Print.fok (K : Nat) : FOK Tryz.prog polyglotref1_Print.sig (fun x => polyglotref1_Print.f K x) 20 := fok_of_eval (tt := tt) (cons := [(34, polyglotref1_Good.con K), (35, polyglotref1_amount.con K)]) (exts := []) (bodies := (getBody [])) (K := K) (d := 0) ⟨ttok, (getCon_cons (polyglotref1_Good.ok K) (getCon_cons (polyglotref1_amount.ok K) (fun _ _ => getCon_nil))), (fun _ _ => getExt_nil), (fun _ _ => getBody_nil)⟩ draw bok20 (polyglotref1_Print.eq K)
theorem polyglotref1_Print.ok (K : Nat) : ConOK Tryz.prog 20 (polyglotref1_Print.con K) := con_ok bok20 (polyglotref1_Print.fok K)

noncomputable def polyglotref1_Of.f (K : Nat) (ms0 : Int) (unit1 : Int) : Option (Int × Bool) :=
  (polyglotref1_IsTime.f K ms0).bind fun r1090 =>
  bif !r1090 then some (0, false)
  else
  bif unit1 == 0 then
    bif (Int.tmod ms0 1000) != 0 then
      some (0, false)
    else some (IntKind.i64.wrap (Int.tdiv ms0 1000), true)
  else
  bif unit1 == 1 then some (ms0, true)
  else
  bif unit1 == 2 then some (IntKind.i64.wrap (ms0 * 1000), true)
  else
  bif unit1 == 3 then
    bif decide (ms0 < (-9223372036854)) then some (0, false)
    else
    bif decide (ms0 > 9223372036854) then
      some (0, false)
    else some (IntKind.i64.wrap (ms0 * 1000000), true)
  else some (0, false)
def polyglotref1_Of.sig : Sig := ⟨[(.c (.int .i64)), (.c (.int .i64))], [(.c (.int .i64)), (.c .bool)]⟩
noncomputable def polyglotref1_Of.con (K : Nat) : Con := (mkCon polyglotref1_Of.sig (fun x => polyglotref1_Of.f K x.1 x.2))
noncomputable def polyglotref1_Of.ht : HT := .nil
noncomputable def polyglotref1_Of.cx (K : Nat) : Cx := ⟨tt, [(36, polyglotref1_IsTime.con K)], [], K, inlOf tt [(36, polyglotref1_IsTime.con K)] [] K (getBody []) 0⟩
theorem polyglotref1_Of.eq (K : Nat) (x : PL polyglotref1_Of.sig.ps) : evalF (polyglotref1_Of.cx K) polyglotref1_Of.sig (bodyOf Tryz.f21) polyglotref1_Of.ht x = polyglotref1_Of.f K x.1 x.2 := by kernel_rfl
theorem polyglotref1_Of.fok (K : Nat) : FOK Tryz.prog polyglotref1_Of.sig (fun x => polyglotref1_Of.f K x.1 x.2) 21 := fok_of_eval (tt := tt) (cons := [(36, polyglotref1_IsTime.con K)]) (exts := []) (bodies := (getBody [])) (K := K) (d := 0) ⟨ttok, (getCon_cons (polyglotref1_IsTime.ok K) (fun _ _ => getCon_nil)), (fun _ _ => getExt_nil), (fun _ _ => getBody_nil)⟩ draw bok21 (polyglotref1_Of.eq K)
theorem polyglotref1_Of.ok (K : Nat) : ConOK Tryz.prog 21 (polyglotref1_Of.con K) := con_ok bok21 (polyglotref1_Of.fok K)

noncomputable def polyglotref1_trim.f (K : Nat) (a0 : List Int) : Option (List Int) :=
  ((loopN K (fun (s_ : List Int) =>
    match s_ with
    | a1092 =>
      bif decide ((a1092.length : Int) > 0) then
        bif idx 0 a1092.length then
          bif (a1092.getD 0 (0 : Int)) == 0 then
            bif (decide (1 ≤ (a1092.length : Int))) then
              some (.inl ((a1092.take a1092.length).drop 1))
            else none
          else some (.inr a1092)
        else none
      else some (.inr a1092)) a0 : Option (List Int))).bind fun a1093 =>
  some a1093
def polyglotref1_trim.sig : Sig := ⟨[(.c (.sl (.int .u8)))], [(.c (.sl (.int .u8)))]⟩
noncomputable def polyglotref1_trim.con (K : Nat) : Con := (mkCon polyglotref1_trim.sig (fun x => polyglotref1_trim.f K x))
noncomputable def polyglotref1_trim.ht : HT := .seq .nil (.seq (.block (.loop ⟨3, [0], [], ⟨[(0, .c (.v (.sl (.int .u8))))], []⟩, [(.exit 0, ⟨[(0, .c (.v (.sl (.int .u8))))], []⟩)]⟩ .nil)) .nil)
noncomputable def polyglotref1_trim.cx (K : Nat) : Cx := ⟨tt, [], [], K, inlOf tt [] [] K (getBody []) 0⟩
theorem polyglotref1_trim.eq (K : Nat) (x : PL polyglotref1_trim.sig.ps) : evalF (polyglotref1_trim.cx K) polyglotref1_trim.sig (bodyOf Tryz.f79) polyglotref1_trim.ht x = polyglotref1_trim.f K x := by kernel_rfl
theorem polyglotref1_trim.fok (K : Nat) : FOK Tryz.prog polyglotref1_trim.sig (fun x => polyglotref1_trim.f K x) 79 := fok_of_eval (tt := tt) (cons := []) (exts := []) (bodies := (getBody [])) (K := K) (d := 0) ⟨ttok, (fun _ _ => getCon_nil), (fun _ _ => getExt_nil), (fun _ _ => getBody_nil)⟩ draw bok79 (polyglotref1_trim.eq K)
theorem polyglotref1_trim.ok (K : Nat) : ConOK Tryz.prog 79 (polyglotref1_trim.con K) := con_ok bok79 (polyglotref1_trim.fok K)

noncomputable def polyglotref1_within.f (K : Nat) (a0 : List Int) : Option (Int × Bool) :=
  (polyglotref1_digits.f K 9223372036854775807).bind fun r1094 =>
  (polyglotref1_compare.f K a0 r1094).bind fun r1095 =>
  bif decide (r1095 > 0) then some (0, false)
  else
  ((loopN K (fun (s_ : Int × Int) =>
    match s_ with
    | (n1098, i1099) =>
      bif decide (i1099 < (a0.length : Int)) then
        bif idx i1099 a0.length then
          some (.inl (IntKind.i64.wrap ((IntKind.i64.wrap (n1098 * 10)) + (IntKind.i64.wrap ((a0.getD i1099.toNat (0 : Int))))), IntKind.i64.wrap (i1099 + 1)))
        else none
      else some (.inr n1098)) (0, 0) : Option Int)).bind fun n1100 =>
  some (n1100, true)
def polyglotref1_within.sig : Sig := ⟨[(.c (.sl (.int .u8)))], [(.c (.int .i64)), (.c .bool)]⟩
noncomputable def polyglotref1_within.con (K : Nat) : Con := (mkCon polyglotref1_within.sig (fun x => polyglotref1_within.f K x))
noncomputable def polyglotref1_within.ht : HT := .seq .nil (.seq .nil (.seq .nil (.seq (.seq .nil (.block (.loop ⟨4, [], [], ⟨[(4, .c (.v (.int .i64))), (5, .c (.v (.int .i64)))], []⟩, [(.exit 0, ⟨[(4, .c (.v (.int .i64)))], []⟩)]⟩ .nil))) .nil)))
noncomputable def polyglotref1_within.cx (K : Nat) : Cx := ⟨tt, [(50, polyglotref1_digits.con K), (109, polyglotref1_compare.con K)], [], K, inlOf tt [(50, polyglotref1_digits.con K), (109, polyglotref1_compare.con K)] [] K (getBody []) 0⟩
theorem polyglotref1_within.eq (K : Nat) (x : PL polyglotref1_within.sig.ps) : evalF (polyglotref1_within.cx K) polyglotref1_within.sig (bodyOf Tryz.f80) polyglotref1_within.ht x = polyglotref1_within.f K x := by kernel_rfl
theorem polyglotref1_within.fok (K : Nat) : FOK Tryz.prog polyglotref1_within.sig (fun x => polyglotref1_within.f K x) 80 := fok_of_eval (tt := tt) (cons := [(50, polyglotref1_digits.con K), (109, polyglotref1_compare.con K)]) (exts := []) (bodies := (getBody [])) (K := K) (d := 0) ⟨ttok, (getCon_cons (polyglotref1_digits.ok K) (getCon_cons (polyglotref1_compare.ok K) (fun _ _ => getCon_nil))), (fun _ _ => getExt_nil), (fun _ _ => getBody_nil)⟩ draw bok80 (polyglotref1_within.eq K)
theorem polyglotref1_within.ok (K : Nat) : ConOK Tryz.prog 80 (polyglotref1_within.con K) := con_ok bok80 (polyglotref1_within.fok K)

noncomputable def polyglotref1_decimal.f (K : Nat) (neg0 : Bool) (a1 : List Int) (s2 : Int) : Option ((Int × Int) × Bool) :=
  (polyglotref1_trim.f K a1).bind fun r1101 =>
  bif (r1101.length : Int) == 0 then some (((0 : Int), (0 : Int)), decide (s2 ≥ 0))
  else
  ((loopN K (fun (s_ : List Int × Int) =>
    match s_ with
    | (a1104, s1105) =>
      bif decide (s1105 > 0) then
        bif idx (IntKind.i64.wrap ((a1104.length : Int) - 1)) a1104.length then
          bif (a1104.getD ((IntKind.i64.wrap ((a1104.length : Int) - 1)).toNat) (0 : Int)) == 0 then
            bif (decide (0 ≤ (IntKind.i64.wrap ((a1104.length : Int) - 1)))) && (decide ((IntKind.i64.wrap ((a1104.length : Int) - 1)) ≤ (a1104.length : Int))) then
              some (.inl ((a1104.take ((IntKind.i64.wrap ((a1104.length : Int) - 1)).toNat)).drop 0, IntKind.i64.wrap (s1105 - 1)))
            else none
          else some (.inr (a1104, s1105))
        else none
      else some (.inr (a1104, s1105))) (r1101, s2) : Option (List Int × Int))).bind fun (a1106, s1107) =>
  (polyglotref1_within.f K a1106).bind fun (r1108, r1109) =>
  (((
      bif !r1109 then some true
      else
      bif decide (s1107 < 0) then
        some true
      else some (decide (s1107 > 18))) : Option Bool)).bind fun t1110 =>
  bif t1110 then some (((0 : Int), (0 : Int)), false)
  else
  bif neg0 then
    some ((IntKind.i64.wrap (0 - r1108), s1107), true)
  else some ((r1108, s1107), true)
def polyglotref1_decimal.sig : Sig := ⟨[(.c .bool), (.c (.sl (.int .u8))), (.c (.int .i64))], [(.agg (.pair (.int .i64) (.int .i64))), (.c .bool)]⟩
noncomputable def polyglotref1_decimal.con (K : Nat) : Con := (mkCon polyglotref1_decimal.sig (fun x => polyglotref1_decimal.f K x.1 x.2.1 x.2.2))
noncomputable def polyglotref1_decimal.ht : HT := .seq .nil (.seq .nil (.seq .nil (.seq (.block (.loop ⟨8, [1, 2], [], ⟨[(1, .c (.v (.sl (.int .u8)))), (2, .c (.v (.int .i64)))], []⟩, [(.exit 0, ⟨[(1, .c (.v (.sl (.int .u8)))), (2, .c (.v (.int .i64)))], []⟩)]⟩ .nil)) (.seq .nil (.seq (.join ⟨9, [], [], ⟨[], []⟩, [(.normal, ⟨[(50, .c (.v .bool))], []⟩)]⟩ (.seq .nil .nil)) .nil)))))
noncomputable def polyglotref1_decimal.cx (K : Nat) : Cx := ⟨tt, [(79, polyglotref1_trim.con K), (80, polyglotref1_within.con K)], [], K, inlOf tt [(79, polyglotref1_trim.con K), (80, polyglotref1_within.con K)] [] K (getBody []) 0⟩
theorem polyglotref1_decimal.eq (K : Nat) (x : PL polyglotref1_decimal.sig.ps) : evalF (polyglotref1_decimal.cx K) polyglotref1_decimal.sig (bodyOf Tryz.f51) polyglotref1_decimal.ht x = polyglotref1_decimal.f K x.1 x.2.1 x.2.2 := by kernel_rfl
theorem polyglotref1_decimal.fok (K : Nat) : FOK Tryz.prog polyglotref1_decimal.sig (fun x => polyglotref1_decimal.f K x.1 x.2.1 x.2.2) 51 := fok_of_eval (tt := tt) (cons := [(79, polyglotref1_trim.con K), (80, polyglotref1_within.con K)]) (exts := []) (bodies := (getBody [])) (K := K) (d := 0) ⟨ttok, (getCon_cons (polyglotref1_trim.ok K) (getCon_cons (polyglotref1_within.ok K) (fun _ _ => getCon_nil))), (fun _ _ => getExt_nil), (fun _ _ => getBody_nil)⟩ draw bok51 (polyglotref1_decimal.eq K)
theorem polyglotref1_decimal.ok (K : Nat) : ConOK Tryz.prog 51 (polyglotref1_decimal.con K) := con_ok bok51 (polyglotref1_decimal.fok K)

noncomputable def polyglotref1_Norm.f (K : Nat) (m0 : Int) (s1 : Int) : Option ((Int × Int) × Bool) :=
  (polyglotref1_amount.f K m0).bind fun r1111 =>
  (polyglotref1_decimal.f K (decide (m0 < 0)) r1111 s1).bind fun (r1112, r1113) =>
  some (r1112, r1113)
def polyglotref1_Norm.sig : Sig := ⟨[(.c (.int .i64)), (.c (.int .i64))], [(.agg (.pair (.int .i64) (.int .i64))), (.c .bool)]⟩
noncomputable def polyglotref1_Norm.con (K : Nat) : Con := (mkCon polyglotref1_Norm.sig (fun x => polyglotref1_Norm.f K x.1 x.2))
noncomputable def polyglotref1_Norm.ht : HT := .nil
noncomputable def polyglotref1_Norm.cx (K : Nat) : Cx := ⟨tt, [(35, polyglotref1_amount.con K), (51, polyglotref1_decimal.con K)], [], K, inlOf tt [(35, polyglotref1_amount.con K), (51, polyglotref1_decimal.con K)] [] K (getBody []) 0⟩
theorem polyglotref1_Norm.eq (K : Nat) (x : PL polyglotref1_Norm.sig.ps) : evalF (polyglotref1_Norm.cx K) polyglotref1_Norm.sig (bodyOf Tryz.f37) polyglotref1_Norm.ht x = polyglotref1_Norm.f K x.1 x.2 := by kernel_rfl
theorem polyglotref1_Norm.fok (K : Nat) : FOK Tryz.prog polyglotref1_Norm.sig (fun x => polyglotref1_Norm.f K x.1 x.2) 37 := fok_of_eval (tt := tt) (cons := [(35, polyglotref1_amount.con K), (51, polyglotref1_decimal.con K)]) (exts := []) (bodies := (getBody [])) (K := K) (d := 0) ⟨ttok, (getCon_cons (polyglotref1_amount.ok K) (getCon_cons (polyglotref1_decimal.ok K) (fun _ _ => getCon_nil))), (fun _ _ => getExt_nil), (fun _ _ => getBody_nil)⟩ draw bok37 (polyglotref1_Norm.eq K)
theorem polyglotref1_Norm.ok (K : Nat) : ConOK Tryz.prog 37 (polyglotref1_Norm.con K) := con_ok bok37 (polyglotref1_Norm.fok K)

noncomputable def polyglotref20_Text.f (K : Nat) (n0 : Int) : Option (List UInt8) :=
  (polyglotref1_Norm.f K n0 0).bind fun (r1114, r1115) =>
  (polyglotref1_Print.f K r1114).bind fun r1116 =>
  some r1116
def polyglotref20_Text.sig : Sig := ⟨[(.c (.int .i64))], [(.c .str)]⟩
noncomputable def polyglotref20_Text.con (K : Nat) : Con := (mkCon polyglotref20_Text.sig (fun x => polyglotref20_Text.f K x))
noncomputable def polyglotref20_Text.ht : HT := .nil
noncomputable def polyglotref20_Text.cx (K : Nat) : Cx := ⟨tt, [(37, polyglotref1_Norm.con K), (20, polyglotref1_Print.con K)], [], K, inlOf tt [(37, polyglotref1_Norm.con K), (20, polyglotref1_Print.con K)] [] K (getBody []) 0⟩
theorem polyglotref20_Text.eq (K : Nat) (x : PL polyglotref20_Text.sig.ps) : evalF (polyglotref20_Text.cx K) polyglotref20_Text.sig (bodyOf Tryz.f22) polyglotref20_Text.ht x = polyglotref20_Text.f K x := by kernel_rfl
theorem polyglotref20_Text.fok (K : Nat) : FOK Tryz.prog polyglotref20_Text.sig (fun x => polyglotref20_Text.f K x) 22 := fok_of_eval (tt := tt) (cons := [(37, polyglotref1_Norm.con K), (20, polyglotref1_Print.con K)]) (exts := []) (bodies := (getBody [])) (K := K) (d := 0) ⟨ttok, (getCon_cons (polyglotref1_Norm.ok K) (getCon_cons (polyglotref1_Print.ok K) (fun _ _ => getCon_nil))), (fun _ _ => getExt_nil), (fun _ _ => getBody_nil)⟩ draw bok22 (polyglotref20_Text.eq K)
theorem polyglotref20_Text.ok (K : Nat) : ConOK Tryz.prog 22 (polyglotref20_Text.con K) := con_ok bok22 (polyglotref20_Text.fok K)

noncomputable def polyglotref20_Print.f (K : Nat) (b0 : List UInt8 × List (List UInt8 × Int × List UInt8 × List UInt8 × List (List (List UInt8 × List UInt8) × Int × Bool × Int × Int × Int × Int × Bool × Int))) (unit1 : Int) : Option (List UInt8 × Int) :=
  (polyglotref12_Class.f K 2 b0).bind fun r1117 =>
  bif !r1117 then some (([] : List UInt8), 15)
  else
  ((loopN K (fun (s_ : List UInt8 × Int) =>
    match s_ with
    | (out1228, i1229) =>
      bif decide (i1229 < (b0.2.length : Int)) then
        bif idx i1229 b0.2.length then
          ((loopN K (fun (s_ : List UInt8 × Int) =>
            match s_ with
            | (out1263, k1264) =>
              bif decide (k1264 < ((((((b0.2.getD i1229.toNat (([] : List UInt8), ((0 : Int), (([] : List UInt8), (([] : List UInt8), ([] : List (List (List UInt8 × List UInt8) × Int × Bool × Int × Int × Int × Int × Bool × Int))))))).2).2).2).2).length : Int)) then
                bif idx k1264 ((((((b0.2.getD i1229.toNat (([] : List UInt8), ((0 : Int), (([] : List UInt8), (([] : List UInt8), ([] : List (List (List UInt8 × List UInt8) × Int × Bool × Int × Int × Int × Int × Bool × Int))))))).2).2).2).2).length) then
                  (polyglotref20_Quote.f K ((b0.2.getD i1229.toNat (([] : List UInt8), ((0 : Int), (([] : List UInt8), (([] : List UInt8), ([] : List (List (List UInt8 × List UInt8) × Int × Bool × Int × Int × Int × Int × Bool × Int))))))).1) ([44, 32] : List UInt8)).bind fun r1265 =>
                  bif decide (out1263.length + r1265.length ≤ LIM) then
                    ((loopN K (fun (s_ : List UInt8 × Int) =>
                      match s_ with
                      | (out1270, n1271) =>
                        bif decide (n1271 < ((((((((b0.2.getD i1229.toNat (([] : List UInt8), ((0 : Int), (([] : List UInt8), (([] : List UInt8), ([] : List (List (List UInt8 × List UInt8) × Int × Bool × Int × Int × Int × Int × Bool × Int))))))).2).2).2).2).getD k1264.toNat (([] : List (List UInt8 × List UInt8)), ((0 : Int), (false, ((0 : Int), ((0 : Int), ((0 : Int), ((0 : Int), (false, (0 : Int)))))))))).1).length : Int)) then
                          bif idx n1271 ((((((((b0.2.getD i1229.toNat (([] : List UInt8), ((0 : Int), (([] : List UInt8), (([] : List UInt8), ([] : List (List (List UInt8 × List UInt8) × Int × Bool × Int × Int × Int × Int × Bool × Int))))))).2).2).2).2).getD k1264.toNat (([] : List (List UInt8 × List UInt8)), ((0 : Int), (false, ((0 : Int), ((0 : Int), ((0 : Int), ((0 : Int), (false, (0 : Int)))))))))).1).length) then
                            (polyglotref20_Quote.f K (((((((((b0.2.getD i1229.toNat (([] : List UInt8), ((0 : Int), (([] : List UInt8), (([] : List UInt8), ([] : List (List (List UInt8 × List UInt8) × Int × Bool × Int × Int × Int × Int × Bool × Int))))))).2).2).2).2).getD k1264.toNat (([] : List (List UInt8 × List UInt8)), ((0 : Int), (false, ((0 : Int), ((0 : Int), ((0 : Int), ((0 : Int), (false, (0 : Int)))))))))).1).getD n1271.toNat (([] : List UInt8), ([] : List UInt8))).1) ([44, 32, 61] : List UInt8)).bind fun r1272 =>
                            bif decide (([44] : List UInt8).length + r1272.length ≤ LIM) then
                              bif decide ((([44] : List UInt8) ++ r1272).length + ([61] : List UInt8).length ≤ LIM) then
                                bif idx n1271 ((((((((b0.2.getD i1229.toNat (([] : List UInt8), ((0 : Int), (([] : List UInt8), (([] : List UInt8), ([] : List (List (List UInt8 × List UInt8) × Int × Bool × Int × Int × Int × Int × Bool × Int))))))).2).2).2).2).getD k1264.toNat (([] : List (List UInt8 × List UInt8)), ((0 : Int), (false, ((0 : Int), ((0 : Int), ((0 : Int), ((0 : Int), (false, (0 : Int)))))))))).1).length) then
                                  (polyglotref20_Quote.f K (((((((((b0.2.getD i1229.toNat (([] : List UInt8), ((0 : Int), (([] : List UInt8), (([] : List UInt8), ([] : List (List (List UInt8 × List UInt8) × Int × Bool × Int × Int × Int × Int × Bool × Int))))))).2).2).2).2).getD k1264.toNat (([] : List (List UInt8 × List UInt8)), ((0 : Int), (false, ((0 : Int), ((0 : Int), ((0 : Int), ((0 : Int), (false, (0 : Int)))))))))).1).getD n1271.toNat (([] : List UInt8), ([] : List UInt8))).2) ([44, 32, 61] : List UInt8)).bind fun r1273 =>
                                  bif decide (((([44] : List UInt8) ++ r1272) ++ ([61] : List UInt8)).length + r1273.length ≤ LIM) then
                                    bif decide (out1270.length + (((([44] : List UInt8) ++ r1272) ++ ([61] : List UInt8)) ++ r1273).length ≤ LIM) then
                                      some (.inl (out1270 ++ (((([44] : List UInt8) ++ r1272) ++ ([61] : List UInt8)) ++ r1273), IntKind.i64.wrap (n1271 + 1)))
                                    else none
                                  else none
                                else none
                              else none
                            else none
                          else none
                        else some (.inr out1270)) (out1263 ++ r1265, 0) : Option (List UInt8))).bind fun out1274 =>
                    (polyglotref20_Field.f K (((b0.2.getD i1229.toNat (([] : List UInt8), ((0 : Int), (([] : List UInt8), (([] : List UInt8), ([] : List (List (List UInt8 × List UInt8) × Int × Bool × Int × Int × Int × Int × Bool × Int))))))).2).1)).bind fun r1275 =>
                    bif decide (([32] : List UInt8).length + r1275.length ≤ LIM) then
                      bif decide ((([32] : List UInt8) ++ r1275).length + ([61] : List UInt8).length ≤ LIM) then
                        (polyglotref1_Print.f K ((((((((((((b0.2.getD i1229.toNat (([] : List UInt8), ((0 : Int), (([] : List UInt8), (([] : List UInt8), ([] : List (List (List UInt8 × List UInt8) × Int × Bool × Int × Int × Int × Int × Bool × Int))))))).2).2).2).2).getD k1264.toNat (([] : List (List UInt8 × List UInt8)), ((0 : Int), (false, ((0 : Int), ((0 : Int), ((0 : Int), ((0 : Int), (false, (0 : Int)))))))))).2).2).2).2).2).1, ((((((((((((b0.2.getD i1229.toNat (([] : List UInt8), ((0 : Int), (([] : List UInt8), (([] : List UInt8), ([] : List (List (List UInt8 × List UInt8) × Int × Bool × Int × Int × Int × Int × Bool × Int))))))).2).2).2).2).getD k1264.toNat (([] : List (List UInt8 × List UInt8)), ((0 : Int), (false, ((0 : Int), ((0 : Int), ((0 : Int), ((0 : Int), (false, (0 : Int)))))))))).2).2).2).2).2).2).1)).bind fun r1276 =>
                        bif decide (((([32] : List UInt8) ++ r1275) ++ ([61] : List UInt8)).length + r1276.length ≤ LIM) then
                          bif decide (out1274.length + (((([32] : List UInt8) ++ r1275) ++ ([61] : List UInt8)) ++ r1276).length ≤ LIM) then
                            bif (((((((((((((b0.2.getD i1229.toNat (([] : List UInt8), ((0 : Int), (([] : List UInt8), (([] : List UInt8), ([] : List (List (List UInt8 × List UInt8) × Int × Bool × Int × Int × Int × Int × Bool × Int))))))).2).2).2).2).getD k1264.toNat (([] : List (List UInt8 × List UInt8)), ((0 : Int), (false, ((0 : Int), ((0 : Int), ((0 : Int), ((0 : Int), (false, (0 : Int)))))))))).2).2).2).2).2).2).2).1 then
                              (polyglotref1_Of.f K ((((((((((((((b0.2.getD i1229.toNat (([] : List UInt8), ((0 : Int), (([] : List UInt8), (([] : List UInt8), ([] : List (List (List UInt8 × List UInt8) × Int × Bool × Int × Int × Int × Int × Bool × Int))))))).2).2).2).2).getD k1264.toNat (([] : List (List UInt8 × List UInt8)), ((0 : Int), (false, ((0 : Int), ((0 : Int), ((0 : Int), ((0 : Int), (false, (0 : Int)))))))))).2).2).2).2).2).2).2).2) unit1).bind fun (r1277, r1278) =>
                              bif !r1278 then some (.inr (.inr (([] : List UInt8), 15)))
                              else
                              (polyglotref20_Text.f K r1277).bind fun r1279 =>
                              bif decide (([32] : List UInt8).length + r1279.length ≤ LIM) then
                                bif decide ((out1274 ++ (((([32] : List UInt8) ++ r1275) ++ ([61] : List UInt8)) ++ r1276)).length + (([32] : List UInt8) ++ r1279).length ≤ LIM) then
                                  bif decide (((out1274 ++ (((([32] : List UInt8) ++ r1275) ++ ([61] : List UInt8)) ++ r1276)) ++ (([32] : List UInt8) ++ r1279)).length + ([10] : List UInt8).length ≤ LIM) then
                                    some (.inl (((out1274 ++ (((([32] : List UInt8) ++ r1275) ++ ([61] : List UInt8)) ++ r1276)) ++ (([32] : List UInt8) ++ r1279)) ++ ([10] : List UInt8), IntKind.i64.wrap (k1264 + 1)))
                                  else none
                                else none
                              else none
                            else
                            bif decide ((out1274 ++ (((([32] : List UInt8) ++ r1275) ++ ([61] : List UInt8)) ++ r1276)).length + ([10] : List UInt8).length ≤ LIM) then
                              some (.inl ((out1274 ++ (((([32] : List UInt8) ++ r1275) ++ ([61] : List UInt8)) ++ r1276)) ++ ([10] : List UInt8), IntKind.i64.wrap (k1264 + 1)))
                            else none
                          else none
                        else none
                      else none
                    else none
                  else none
                else none
              else some (.inr (.inl out1263))) (out1228, 0) : Option ((List UInt8) ⊕ (List UInt8 × Int)))).bind fun e_ =>
          match e_ with
          | .inl out1280 =>
            some (.inl (out1280, IntKind.i64.wrap (i1229 + 1)))
          | .inr (t1281, t1282) =>
            some (.inr (.inr (t1281, t1282)))
        else none
      else some (.inr (.inl out1228))) (([] : List UInt8), 0) : Option ((List UInt8) ⊕ (List UInt8 × Int)))).bind fun e_ =>
  match e_ with
  | .inl out1283 =>
    bif decide ((out1283.length : Int) > 4000) then
      some (([] : List UInt8), 14)
    else some (out1283, 0)
  | .inr (t1284, t1285) =>
    some (t1284, t1285)
def polyglotref20_Print.sig : Sig := ⟨[(.agg (.pair .str (.sl (.pair .str (.pair (.int .i64) (.pair .str (.pair .str (.sl (.pair (.sl (.pair .str .str)) (.pair (.int .i64) (.pair .bool (.pair (.int .i64) (.pair (.int .i64) (.pair (.int .i64) (.pair (.int .i64) (.pair .bool (.int .i64))))))))))))))))), (.c (.int .i64))], [(.c .str), (.c (.int .i64))]⟩
noncomputable def polyglotref20_Print.con (K : Nat) : Con := (mkCon polyglotref20_Print.sig (fun x => polyglotref20_Print.f K x.1 x.2))
noncomputable def polyglotref20_Print.ht : HT := .seq .nil (.seq .nil (.seq .nil (.seq (.seq .nil (.block (.loop ⟨3, [], [], ⟨[(6, .c (.v .str)), (7, .c (.v (.int .i64)))], []⟩, [(.exit 0, ⟨[(6, .c (.v .str))], []⟩), (.ret, ⟨[(4, .c (.v .str)), (5, .c (.v (.int .i64)))], []⟩)]⟩ (.seq .nil (.seq (.block (.seq .nil (.seq .nil (.block (.loop ⟨9, [4, 5, 6], [], ⟨[(6, .c (.v .str)), (9, .c (.v (.int .i64)))], []⟩, [(.exit 2, ⟨[(6, .c (.v .str))], []⟩), (.ret, ⟨[(4, .c (.v .str)), (5, .c (.v (.int .i64)))], []⟩)]⟩ (.seq .nil (.seq (.block (.seq .nil (.seq .nil (.seq (.seq .nil (.block (.loop ⟨11, [6], [], ⟨[(6, .c (.v .str)), (11, .c (.v (.int .i64)))], []⟩, [(.exit 4, ⟨[(6, .c (.v .str))], []⟩)]⟩ .nil))) .nil)))) .nil))))))) .nil))))) .nil)))
noncomputable def polyglotref20_Print.cx (K : Nat) : Cx := ⟨tt, [(18, polyglotref12_Class.con K), (19, polyglotref20_Quote.con K), (10, polyglotref20_Field.con K), (20, polyglotref1_Print.con K), (21, polyglotref1_Of.con K), (22, polyglotref20_Text.con K)], [], K, inlOf tt [(18, polyglotref12_Class.con K), (19, polyglotref20_Quote.con K), (10, polyglotref20_Field.con K), (20, polyglotref1_Print.con K), (21, polyglotref1_Of.con K), (22, polyglotref20_Text.con K)] [] K (getBody []) 0⟩
theorem polyglotref20_Print.eq (K : Nat) (x : PL polyglotref20_Print.sig.ps) : evalF (polyglotref20_Print.cx K) polyglotref20_Print.sig (bodyOf Tryz.f8) polyglotref20_Print.ht x = polyglotref20_Print.f K x.1 x.2 := by kernel_rfl
theorem polyglotref20_Print.fok (K : Nat) : FOK Tryz.prog polyglotref20_Print.sig (fun x => polyglotref20_Print.f K x.1 x.2) 8 := fok_of_eval (tt := tt) (cons := [(18, polyglotref12_Class.con K), (19, polyglotref20_Quote.con K), (10, polyglotref20_Field.con K), (20, polyglotref1_Print.con K), (21, polyglotref1_Of.con K), (22, polyglotref20_Text.con K)]) (exts := []) (bodies := (getBody [])) (K := K) (d := 0) ⟨ttok, (getCon_cons (polyglotref12_Class.ok K) (getCon_cons (polyglotref20_Quote.ok K) (getCon_cons (polyglotref20_Field.ok K) (getCon_cons (polyglotref1_Print.ok K) (getCon_cons (polyglotref1_Of.ok K) (getCon_cons (polyglotref20_Text.ok K) (fun _ _ => getCon_nil))))))), (fun _ _ => getExt_nil), (fun _ _ => getBody_nil)⟩ draw bok8 (polyglotref20_Print.eq K)
theorem polyglotref20_Print.ok (K : Nat) : ConOK Tryz.prog 8 (polyglotref20_Print.con K) := con_ok bok8 (polyglotref20_Print.fok K)

noncomputable def polyglotlaw22_LinePrints.f (K : Nat) (b0 : List UInt8 × List (List UInt8 × Int × List UInt8 × List UInt8 × List (List (List UInt8 × List UInt8) × Int × Bool × Int × Int × Int × Int × Bool × Int))) (unit1 : Int) (kind2 : Int) : Option Bool :=
  (polyglotlaw22_known.f K).bind fun r1286 =>
  bif !r1286 then some false
  else
  (polyglothelp_Wide.f K b0).bind fun r1287 =>
  bif r1287 then some true
  else
  ((loopN K (fun (s_ : Int) =>
    match s_ with
    | t1298 =>
      bif decide (t1298 < 5) then
        bif idx t1298 5 then
          bif decide (t1298.toNat < 5) then
            (lineprint_Print.f K b0 (([unit1, 0, 1, 2, 3] : List Int).getD t1298.toNat (0 : Int))).bind fun (r1299, r1300) =>
            (polyglotref20_Print.f K b0 (([unit1, 0, 1, 2, 3] : List Int).getD t1298.toNat (0 : Int))).bind fun (r1301, r1302) =>
            bif !(r1299 == r1301) then some (.inr (.inr false))
            else
            bif r1300 != r1302 then
              some (.inr (.inr false))
            else some (.inl (IntKind.i64.wrap (t1298 + 1)))
          else none
        else none
      else some (.inr (.inl ()))) 0 : Option (Unit ⊕ Bool))).bind fun e_ =>
  match e_ with
  | .inl _ =>
    (lineprint_Field.f K kind2).bind fun r1303 =>
    (polyglotref20_Field.f K kind2).bind fun r1304 =>
    some (r1303 == r1304)
  | .inr t1305 =>
    some t1305
def polyglotlaw22_LinePrints.sig : Sig := ⟨[(.agg (.pair .str (.sl (.pair .str (.pair (.int .i64) (.pair .str (.pair .str (.sl (.pair (.sl (.pair .str .str)) (.pair (.int .i64) (.pair .bool (.pair (.int .i64) (.pair (.int .i64) (.pair (.int .i64) (.pair (.int .i64) (.pair .bool (.int .i64))))))))))))))))), (.c (.int .i64)), (.c (.int .i64))], [(.c .bool)]⟩
noncomputable def polyglotlaw22_LinePrints.con (K : Nat) : Con := (mkCon polyglotlaw22_LinePrints.sig (fun x => polyglotlaw22_LinePrints.f K x.1 x.2.1 x.2.2))
noncomputable def polyglotlaw22_LinePrints.ht : HT := .seq .nil (.seq .nil (.seq .nil (.seq (.seq .nil (.block (.loop ⟨20, [6, 8, 9, 10, 11, 12], [], ⟨[(20, .c (.v (.int .i64)))], []⟩, [(.exit 0, ⟨[], []⟩), (.ret, ⟨[(6, .c (.v .bool))], []⟩)]⟩ .nil))) .nil)))
noncomputable def polyglotlaw22_LinePrints.cx (K : Nat) : Cx := ⟨tt, [(5, polyglotlaw22_known.con K), (6, polyglothelp_Wide.con K), (7, lineprint_Print.con K), (8, polyglotref20_Print.con K), (9, lineprint_Field.con K), (10, polyglotref20_Field.con K)], [], K, inlOf tt [(5, polyglotlaw22_known.con K), (6, polyglothelp_Wide.con K), (7, lineprint_Print.con K), (8, polyglotref20_Print.con K), (9, lineprint_Field.con K), (10, polyglotref20_Field.con K)] [] K (getBody []) 0⟩
theorem polyglotlaw22_LinePrints.eq (K : Nat) (x : PL polyglotlaw22_LinePrints.sig.ps) : evalF (polyglotlaw22_LinePrints.cx K) polyglotlaw22_LinePrints.sig (bodyOf Tryz.f3) polyglotlaw22_LinePrints.ht x = polyglotlaw22_LinePrints.f K x.1 x.2.1 x.2.2 := by kernel_rfl
theorem polyglotlaw22_LinePrints.fok (K : Nat) : FOK Tryz.prog polyglotlaw22_LinePrints.sig (fun x => polyglotlaw22_LinePrints.f K x.1 x.2.1 x.2.2) 3 := fok_of_eval (tt := tt) (cons := [(5, polyglotlaw22_known.con K), (6, polyglothelp_Wide.con K), (7, lineprint_Print.con K), (8, polyglotref20_Print.con K), (9, lineprint_Field.con K), (10, polyglotref20_Field.con K)]) (exts := []) (bodies := (getBody [])) (K := K) (d := 0) ⟨ttok, (getCon_cons (polyglotlaw22_known.ok K) (getCon_cons (polyglothelp_Wide.ok K) (getCon_cons (lineprint_Print.ok K) (getCon_cons (polyglotref20_Print.ok K) (getCon_cons (lineprint_Field.ok K) (getCon_cons (polyglotref20_Field.ok K) (fun _ _ => getCon_nil))))))), (fun _ _ => getExt_nil), (fun _ _ => getBody_nil)⟩ draw bok3 (polyglotlaw22_LinePrints.eq K)
theorem polyglotlaw22_LinePrints.ok (K : Nat) : ConOK Tryz.prog 3 (polyglotlaw22_LinePrints.con K) := con_ok bok3 (polyglotlaw22_LinePrints.fok K)

noncomputable def polyglothelp_Batch.f (K : Nat) (l0 : List (List UInt8 × Int × List UInt8 × List UInt8 × List (List (List UInt8 × List UInt8) × Int × Bool × Int × Int × Int × Int × Bool × Int))) : Option (List UInt8 × List (List UInt8 × Int × List UInt8 × List UInt8 × List (List (List UInt8 × List UInt8) × Int × Bool × Int × Int × Int × Int × Bool × Int))) :=
  some (([116] : List UInt8), l0)
def polyglothelp_Batch.sig : Sig := ⟨[(.c (.sl (.pair .str (.pair (.int .i64) (.pair .str (.pair .str (.sl (.pair (.sl (.pair .str .str)) (.pair (.int .i64) (.pair .bool (.pair (.int .i64) (.pair (.int .i64) (.pair (.int .i64) (.pair (.int .i64) (.pair .bool (.int .i64))))))))))))))))], [(.agg (.pair .str (.sl (.pair .str (.pair (.int .i64) (.pair .str (.pair .str (.sl (.pair (.sl (.pair .str .str)) (.pair (.int .i64) (.pair .bool (.pair (.int .i64) (.pair (.int .i64) (.pair (.int .i64) (.pair (.int .i64) (.pair .bool (.int .i64)))))))))))))))))]⟩
noncomputable def polyglothelp_Batch.con (K : Nat) : Con := (mkCon polyglothelp_Batch.sig (fun x => polyglothelp_Batch.f K x))
noncomputable def polyglothelp_Batch.ht : HT := .nil
noncomputable def polyglothelp_Batch.cx (K : Nat) : Cx := ⟨tt, [], [], K, inlOf tt [] [] K (getBody []) 0⟩
theorem polyglothelp_Batch.eq (K : Nat) (x : PL polyglothelp_Batch.sig.ps) : evalF (polyglothelp_Batch.cx K) polyglothelp_Batch.sig (bodyOf Tryz.f11) polyglothelp_Batch.ht x = polyglothelp_Batch.f K x := by kernel_rfl
theorem polyglothelp_Batch.fok (K : Nat) : FOK Tryz.prog polyglothelp_Batch.sig (fun x => polyglothelp_Batch.f K x) 11 := fok_of_eval (tt := tt) (cons := []) (exts := []) (bodies := (getBody [])) (K := K) (d := 0) ⟨ttok, (fun _ _ => getCon_nil), (fun _ _ => getExt_nil), (fun _ _ => getBody_nil)⟩ draw bok11 (polyglothelp_Batch.eq K)
theorem polyglothelp_Batch.ok (K : Nat) : ConOK Tryz.prog 11 (polyglothelp_Batch.con K) := con_ok bok11 (polyglothelp_Batch.fok K)

noncomputable def polyglotlaw22_LineParts.f (K : Nat) (b0 : List UInt8 × List (List UInt8 × Int × List UInt8 × List UInt8 × List (List (List UInt8 × List UInt8) × Int × Bool × Int × Int × Int × Int × Bool × Int))) (unit1 : Int) : Option Bool :=
  (polyglotlaw22_known.f K).bind fun r1306 =>
  bif !r1306 then some false
  else
  (polyglothelp_Wide.f K b0).bind fun r1307 =>
  bif r1307 then some true
  else
  (lineprint_Print.f K b0 (IntKind.i64.wrap (Int.tmod unit1 4))).bind fun (r1308, r1309) =>
  bif r1309 != 0 then some true
  else
  ((loopN K (fun (s_ : List UInt8 × Int) =>
    match s_ with
    | (t1348, i1349) =>
      bif decide (i1349 < (b0.2.length : Int)) then
        bif idx i1349 b0.2.length then
          ((loopN K (fun (s_ : List UInt8 × Int) =>
            match s_ with
            | (t1360, k1361) =>
              bif decide (k1361 < ((((((b0.2.getD i1349.toNat (([] : List UInt8), ((0 : Int), (([] : List UInt8), (([] : List UInt8), ([] : List (List (List UInt8 × List UInt8) × Int × Bool × Int × Int × Int × Int × Bool × Int))))))).2).2).2).2).length : Int)) then
                bif (decide (0 ≤ k1361)) && (decide (k1361 ≤ (IntKind.i64.wrap (k1361 + 1)))) && (decide ((IntKind.i64.wrap (k1361 + 1)) ≤ ((((((b0.2.getD i1349.toNat (([] : List UInt8), ((0 : Int), (([] : List UInt8), (([] : List UInt8), ([] : List (List (List UInt8 × List UInt8) × Int × Bool × Int × Int × Int × Int × Bool × Int))))))).2).2).2).2).length : Int))) then
                  (polyglothelp_Batch.f K ([((b0.2.getD i1349.toNat (([] : List UInt8), ((0 : Int), (([] : List UInt8), (([] : List UInt8), ([] : List (List (List UInt8 × List UInt8) × Int × Bool × Int × Int × Int × Int × Bool × Int))))))).1, ((b0.2.getD i1349.toNat (([] : List UInt8), ((0 : Int), (([] : List UInt8), (([] : List UInt8), ([] : List (List (List UInt8 × List UInt8) × Int × Bool × Int × Int × Int × Int × Bool × Int))))))).2).1, (((b0.2.getD i1349.toNat (([] : List UInt8), ((0 : Int), (([] : List UInt8), (([] : List UInt8), ([] : List (List (List UInt8 × List UInt8) × Int × Bool × Int × Int × Int × Int × Bool × Int))))))).2).2).1, ((((b0.2.getD i1349.toNat (([] : List UInt8), ((0 : Int), (([] : List UInt8), (([] : List UInt8), ([] : List (List (List UInt8 × List UInt8) × Int × Bool × Int × Int × Int × Int × Bool × Int))))))).2).2).2).1, ((((((b0.2.getD i1349.toNat (([] : List UInt8), ((0 : Int), (([] : List UInt8), (([] : List UInt8), ([] : List (List (List UInt8 × List UInt8) × Int × Bool × Int × Int × Int × Int × Bool × Int))))))).2).2).2).2).take ((IntKind.i64.wrap (k1361 + 1)).toNat)).drop k1361.toNat)] : List (List UInt8 × Int × List UInt8 × List UInt8 × List (List (List UInt8 × List UInt8) × Int × Bool × Int × Int × Int × Int × Bool × Int)))).bind fun r1362 =>
                  (lineprint_Print.f K r1362 (IntKind.i64.wrap (Int.tmod unit1 4))).bind fun (r1363, r1364) =>
                  bif r1364 != 0 then some (.inr (.inr false))
                  else
                  bif decide (t1360.length + r1363.length ≤ LIM) then
                    some (.inl (t1360 ++ r1363, IntKind.i64.wrap (k1361 + 1)))
                  else none
                else none
              else some (.inr (.inl t1360))) (t1348, 0) : Option ((List UInt8) ⊕ Bool))).bind fun e_ =>
          match e_ with
          | .inl t1365 =>
            some (.inl (t1365, IntKind.i64.wrap (i1349 + 1)))
          | .inr t1366 =>
            some (.inr (.inr t1366))
        else none
      else some (.inr (.inl t1348))) (([] : List UInt8), 0) : Option ((List UInt8) ⊕ Bool))).bind fun e_ =>
  match e_ with
  | .inl t1367 =>
    some (r1308 == t1367)
  | .inr t1368 =>
    some t1368
def polyglotlaw22_LineParts.sig : Sig := ⟨[(.agg (.pair .str (.sl (.pair .str (.pair (.int .i64) (.pair .str (.pair .str (.sl (.pair (.sl (.pair .str .str)) (.pair (.int .i64) (.pair .bool (.pair (.int .i64) (.pair (.int .i64) (.pair (.int .i64) (.pair (.int .i64) (.pair .bool (.int .i64))))))))))))))))), (.c (.int .u8))], [(.c .bool)]⟩
noncomputable def polyglotlaw22_LineParts.con (K : Nat) : Con := (mkCon polyglotlaw22_LineParts.sig (fun x => polyglotlaw22_LineParts.f K x.1 x.2))
noncomputable def polyglotlaw22_LineParts.ht : HT := .seq .nil (.seq .nil (.seq .nil (.seq .nil (.seq .nil (.seq .nil (.seq .nil (.seq (.seq .nil (.block (.loop ⟨7, [4], [], ⟨[(8, .c (.v .str)), (9, .c (.v (.int .i64)))], []⟩, [(.exit 0, ⟨[(8, .c (.v .str))], []⟩), (.ret, ⟨[(4, .c (.v .bool))], []⟩)]⟩ (.seq .nil (.seq (.block (.seq .nil (.seq .nil (.block (.loop ⟨11, [4, 8], [], ⟨[(8, .c (.v .str)), (11, .c (.v (.int .i64)))], []⟩, [(.exit 2, ⟨[(8, .c (.v .str))], []⟩), (.ret, ⟨[(4, .c (.v .bool))], []⟩)]⟩ .nil))))) .nil))))) .nil)))))))
noncomputable def polyglotlaw22_LineParts.cx (K : Nat) : Cx := ⟨tt, [(5, polyglotlaw22_known.con K), (6, polyglothelp_Wide.con K), (7, lineprint_Print.con K), (11, polyglothelp_Batch.con K)], [], K, inlOf tt [(5, polyglotlaw22_known.con K), (6, polyglothelp_Wide.con K), (7, lineprint_Print.con K), (11, polyglothelp_Batch.con K)] [] K (getBody []) 0⟩
theorem polyglotlaw22_LineParts.eq (K : Nat) (x : PL polyglotlaw22_LineParts.sig.ps) : evalF (polyglotlaw22_LineParts.cx K) polyglotlaw22_LineParts.sig (bodyOf Tryz.f4) polyglotlaw22_LineParts.ht x = polyglotlaw22_LineParts.f K x.1 x.2 := by kernel_rfl
theorem polyglotlaw22_LineParts.fok (K : Nat) : FOK Tryz.prog polyglotlaw22_LineParts.sig (fun x => polyglotlaw22_LineParts.f K x.1 x.2) 4 := fok_of_eval (tt := tt) (cons := [(5, polyglotlaw22_known.con K), (6, polyglothelp_Wide.con K), (7, lineprint_Print.con K), (11, polyglothelp_Batch.con K)]) (exts := []) (bodies := (getBody [])) (K := K) (d := 0) ⟨ttok, (getCon_cons (polyglotlaw22_known.ok K) (getCon_cons (polyglothelp_Wide.ok K) (getCon_cons (lineprint_Print.ok K) (getCon_cons (polyglothelp_Batch.ok K) (fun _ _ => getCon_nil))))), (fun _ _ => getExt_nil), (fun _ _ => getBody_nil)⟩ draw bok4 (polyglotlaw22_LineParts.eq K)
theorem polyglotlaw22_LineParts.ok (K : Nat) : ConOK Tryz.prog 4 (polyglotlaw22_LineParts.con K) := con_ok bok4 (polyglotlaw22_LineParts.fok K)

end Go.Proofs.YtekeaempemiciaaGreatDoor
